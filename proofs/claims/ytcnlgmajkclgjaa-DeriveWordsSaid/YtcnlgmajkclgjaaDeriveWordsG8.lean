/- A part of the proof of the law DeriveWords: that it answers true for every input, and that the input reads behind the call as before (no condition). -/
import Derived.Test.YtcnlgmajkclgjaaDeriveWordsG7
set_option linter.all false
set_option linter.unusedSectionVars false
set_option linter.unusedVariables false
set_option linter.unusedSimpArgs false
namespace Go.Sv
open Go Go.Proofs
section
variable {P : Program} {Q : Cont} {fr : Fr} {C : Heap} {Z Z' : Frz} {nx : Nat} {base n d : Nat} {l : List (Nat × XO)} {kp : Option (List Nat)} {x i y s : X}
theorem r_slN1 {t : T} {L : List T} {m : Nat} (hx : x.ev fr=.d (.sl (encL (t :: L)) m)) (hi : i.ev fr=.i 1) (hm : (t :: L).length=m) (k : R P l base kp Q nx (fr.put d (.d (.sl (encL L) L.length))) C Z) : R P ((n,⟨some d,none,.slS 8 x (some i) none⟩) :: l) base kp Q nx fr C Z:=by
  subst hm
  refine r_p ?_ k
  have h1 : (encL (t :: L)).length=(t :: L).length * 8∧(8 : Nat) ≠ 0:=⟨encL_len _,by omega⟩
  simp only [xp,hx,hiOf,loOf,hi,intUpto]
  rw [if_pos h1,Option.bind_some,if_pos (by simp only [List.length_cons];omega)]
  simp only [Option.map_some,List.length_cons]
  have e2 : (encL (t :: L)).drop 8=encL L:=by
    rw [encL,List.drop_append_of_le_length (by rw [encN_len];exact Nat.le_refl _),List.drop_of_length_le (by rw [encN_len];exact Nat.le_refl _),List.nil_append]
  cases L with
  | nil=>simp [encL]
  | cons u L =>
    have e1 : Int.toNat 1=1:=rfl
    simp only [e1,List.length_cons,Nat.one_mul,e2]
    rw [if_neg (by omega),show (L.length + 1 + 1 - 1)=L.length + 1 by omega,List.take_of_length_le (by rw [encL_len];simp)]
end
set_option maxRecDepth 100000
set_option maxHeartbeats 4000000
attribute [local irreducible] W E R KP thenK blockK retK Good xwp aRun
end Go.Sv
namespace Go.Sv
open Go Go.Proofs
section
variable {P : Program} {Q : Cont} {fr : Fr} {C : Heap} {Z : Frz} {nx : Nat} {base n d : Nat} {l : List (Nat × XO)} {kp : Option (List Nat)} {x i y s : X}
theorem r_mkN2 {t u : T} {id : Nat} (hx : x.ev fr=nodeA t) (hy : y.ev fr=nodeA u) (hid : base + n=id) (k : R P l base kp Q nx (fr.put d (.slL id 0 2 8)) (C.put id ((encL [t,u]).map AV.d)) Z) : R P ((n,⟨some d,none,.mkrow [.int .i64 0,.int .u64 0,.int .u64 0,.int .u64 0,.int .u64 0,.int .i64 0,.int .i64 0,.slice none 0 0] 2 8 [(0,8,x),(8,8,y)]⟩) :: l) base kp Q nx fr C Z:=by
  subst hid
  refine r_n (v:=.slL (base + n) 0 2 8) (r:=(encL [t,u]).map AV.d) ?_ k
  obtain ⟨k0,a0,b0,c0,d0,mn,mx,subs⟩:=t
  obtain ⟨k1,a1,b1,c1,d1,mn1,mx1,subs1⟩:=u
  simp only [xn,List.map_cons,List.map_nil,hx,hy]
  rfl
end
theorem okS_flat {l : List T} (h : okL l) : ∀ t ∈ flatL 4 l,okS t:=fun t ht=>okT_S ((okL_iff _).1 (okL_flat 4 h) t ht)
theorem sq_le {c : Nat} (h : c≤4000) : c * c≤16000000:=Nat.mul_le_mul h h
set_option maxRecDepth 100000
set_option maxHeartbeats 4000000
attribute [local irreducible] W E R KP thenK blockK retK Good xwp aRun
theorem row153_of {x : Nat} (l : List T) (hok : okL l) (hsf : sfL l) (hc : cntL l≤4000)
    (hby : ∀ t r,l=t :: r→Good Try.prog 127 [nodeA t,.d (.val (.int .u8 (x : Nat)))] none (nodeA (byT x t)) none none)
    (hrow : ∀ t r,l=t :: r→Good Try.prog 153 [.d (.sl (encL r) r.length),.d (.val (.int .u8 (x : Nat)))] none (nodeA (rowD r (byL x r))) none none) :
    Good Try.prog 153 [.d (.sl (encL l) l.length),.d (.val (.int .u8 (x : Nat)))] none (nodeA (rowD l (byL x l))) none none:=by
  match l,hok,hsf,hc,hby,hrow with
  | [],_,_,_,_,_ =>
    have h54 : Good Try.prog 54 [.d (.sl [] 0)] none (.agg [.i 2,.d (.val (.int .u64 0)),.d (.val (.int .u64 0)),.d (.val (.int .u64 0)),.d (.val (.int .u64 0)),.i 0,.i 0,.d (.sl [] 0)]) none none:=alt54_good [] (by simp [cntL]) (fun t ht=>by simp [flatL] at ht)
    have e : nodeA (rowD [] (byL x []))=.agg [.i 2,.d (.val (.int .u64 0)),.d (.val (.int .u64 0)),.d (.val (.int .u64 0)),.d (.val (.int .u64 0)),.i 0,.i 0,.d (.sl [] 0)]:=rfl
    rw [e]
    refine b153 (by simp) (by simp) (w_init ?_)
    unfold x153
    simp only [List.length_nil]
    repeat' (first|(apply r_mvS;rfl)|(apply r_call (bs:=[.d (.sl [] 0)]) (us:=[]);rfl;rfl;exact h54;rfl)|(apply r_eql;rfl;rfl;(first|(apply dT;omega)|(apply dF;omega)|rfl))|(apply r_lenD;rfl)|(apply r_alloc;((conv=>lhs;simp only [Nat.reduceAdd])<;>rfl);rfl)|(apply r_stL;rfl;rfl;rfl;rfl;(first|rfl|(simp only [z_nil,z_add]<;>rfl));rfl;rfl)|(apply r_nilK)|(apply k_V;rfl)|(apply k_PL;rfl)|(apply k_S;rfl)|(apply k_nil)|(apply e_ret;rfl)|(apply w_seq)|(apply w_ops;((conv=>lhs;simp only [Nat.reduceAdd])<;>rfl))|(apply w_condT;rfl)|(apply e_thenN)|(apply e_thenR)|(apply w_ret))
    exact .data _ rfl
  | [t],hok,hsf,_,hby,_ =>
    have g1:=hby t [] rfl
    have hs : NodeAt (encL [t]) (0 * 8) t:=NodeAt.sub (l:=[t]) (i:=0) (by simp)
    have e : rowD [t] (byL x [t])=byT x t:=by simp [rowD,byL]
    have hna : [nodeA t,.d (.val (.int .u8 (x : Nat)))].all AV.nrm=true:=by rw [List.all_cons,nodeA_nrm];rfl
    rw [e]
    clear e hby hrow hok hsf
    generalize byT x t=v at g1
    obtain ⟨k,a,b,c,d,mn,mx,subs⟩:=v
    have e0 : nodeA (T.node k a b c d mn mx subs)=.agg [.i k,.d (.val (.int .u64 a)),.d (.val (.int .u64 b)),.d (.val (.int .u64 c)),.d (.val (.int .u64 d)),.i mn,.i mx,.d (.sl (encL subs) subs.length)]:=rfl
    rw [e0] at g1 ⊢
    refine b153 (by simp) (by simp) (w_init ?_)
    unfold x153
    simp only [List.length_cons,List.length_nil,Nat.zero_add]
    repeat' (first|(apply r_mvV;rfl)|(apply r_mvS;rfl)|(apply r_p;apply ix_sub (j:=0);rfl;rfl;(simp))|(apply r_l;apply ld_node';exact hs;rfl)|(apply r_callA (ags:=[nodeA t,.d (.val (.int .u8 (x : Nat)))]);rfl;exact hna;exact g1)|(apply r_ldL (v:=.agg [.i k,.d (.val (.int .u64 a)),.d (.val (.int .u64 b)),.d (.val (.int .u64 c)),.d (.val (.int .u64 d)),.i mn,.i mx,.d (.sl (encL subs) subs.length)]);rfl;rfl;rfl)|(apply r_eql;rfl;rfl;(first|(apply dT;omega)|(apply dF;omega)|rfl))|(apply r_lenD;rfl)|(apply r_alloc;((conv=>lhs;simp only [Nat.reduceAdd])<;>rfl);rfl)|(apply r_stL;rfl;rfl;rfl;rfl;(first|rfl|(simp only [z_nil,z_add]<;>rfl));rfl;rfl)|(apply r_nilK)|(apply k_V;rfl)|(apply k_PL;rfl)|(apply k_S;rfl)|(apply k_nil)|(apply e_ret;rfl)|(apply w_seq)|(apply w_ops;((conv=>lhs;simp only [Nat.reduceAdd])<;>rfl))|(apply w_condT;rfl)|(apply w_condF;rfl)|(apply e_thenN)|(apply e_thenR)|(apply w_ret)|(apply w_skip))
    exact .data _ rfl
  | t :: u :: r,hok,hsf,hc,hby,hrow =>
    have g1:=hby t (u :: r) rfl
    have g2:=hrow t (u :: r) rfl
    simp only [okL] at hok
    simp only [sfL] at hsf
    have hlen:=cntL_len (t :: u :: r)
    have hrl : r.length≤4000:=by simp only [List.length_cons] at hlen;omega
    have hs : NodeAt (encL (t :: u :: r)) (0 * 8) t:=NodeAt.sub (l:=t :: u :: r) (i:=0) (by simp)
    have hna : [nodeA t,.d (.val (.int .u8 (x : Nat)))].all AV.nrm=true:=by rw [List.all_cons,nodeA_nrm];rfl
    have hct : t.cnt≤4000:=by simp only [cntL] at hc;omega
    have hcr : cntL (u :: r)≤3999:=by have:=cnt_pos t;simp only [cntL] at hc ⊢;omega
    have g3:=null131_good 4000 t (encL (t :: u :: r)) (0 * 8) hs hct (by omega) hok.1
    obtain ⟨d1,d2,_,d4⟩:=byT_ok x t hok.1 hsf.1
    obtain ⟨f1,f2,_,f4⟩:=rowD_ok x (u :: r) _ hok.2 hsf.2 (byL_ok x (u :: r) hok.2 hsf.2)
    have hq:=sq_le hct
    have hq2:=sq_le (c:=cntL (u :: r) + 1) (by omega)
    have g4:=cat53_good (byT x t :: u :: r) (by rw [cntL];omega)
    rw [show (byT x t :: u :: r).length=1 + (u :: r).length by simp only [List.length_cons];omega] at g4
    have hcc:=cnt_cat (byT x t :: u :: r)
    rw [cntL] at hcc
    have oc : okT (catS (byT x t :: u :: r)):=okT_cat ⟨d1,hok.2⟩
    have g5:=alt54_good [catS (byT x t :: u :: r),rowD (u :: r) (byL x (u :: r))] (by simp only [cntL] at hcc hcr f4 hq2 ⊢;omega) (okS_flat ⟨oc,f1,trivial⟩)
    have e : rowD (t :: u :: r) (byL x (t :: u :: r))=if nlT t=true then altS [catS (byT x t :: u :: r),rowD (u :: r) (byL x (u :: r))] else catS (byT x t :: u :: r):=by
      rw [byL,rowD];rfl
    rw [e]
    clear e hok hsf hc hby hrow d1 d2 d4 f1 f2 f4 hq hq2 hct hcr oc hcc
    generalize altS [catS (byT x t :: u :: r),rowD (u :: r) (byL x (u :: r))]=v4 at g5 ⊢
    generalize catS (byT x t :: u :: r)=v2 at g4 g5 ⊢
    generalize rowD (u :: r) (byL x (u :: r))=v3 at g2 g5
    generalize byT x t=v1 at g1 g4
    generalize nlT t=q at g3 ⊢
    obtain ⟨k,a,b,c,d,mn,mx,subs⟩:=v1
    obtain ⟨k2,a2,b2,c2,d2,mn2,mx2,subs2⟩:=v2
    obtain ⟨k3,a3,b3,c3,d3,mn3,mx3,subs3⟩:=v3
    obtain ⟨k4,a4,b4,c4,d4,mn4,mx4,subs4⟩:=v4
    have e1 : nodeA (T.node k a b c d mn mx subs)=.agg [.i k,.d (.val (.int .u64 a)),.d (.val (.int .u64 b)),.d (.val (.int .u64 c)),.d (.val (.int .u64 d)),.i mn,.i mx,.d (.sl (encL subs) subs.length)]:=rfl
    have e2 : nodeA (T.node k2 a2 b2 c2 d2 mn2 mx2 subs2)=.agg [.i k2,.d (.val (.int .u64 a2)),.d (.val (.int .u64 b2)),.d (.val (.int .u64 c2)),.d (.val (.int .u64 d2)),.i mn2,.i mx2,.d (.sl (encL subs2) subs2.length)]:=rfl
    have e3 : nodeA (T.node k3 a3 b3 c3 d3 mn3 mx3 subs3)=.agg [.i k3,.d (.val (.int .u64 a3)),.d (.val (.int .u64 b3)),.d (.val (.int .u64 c3)),.d (.val (.int .u64 d3)),.i mn3,.i mx3,.d (.sl (encL subs3) subs3.length)]:=rfl
    have e4 : nodeA (T.node k4 a4 b4 c4 d4 mn4 mx4 subs4)=.agg [.i k4,.d (.val (.int .u64 a4)),.d (.val (.int .u64 b4)),.d (.val (.int .u64 c4)),.d (.val (.int .u64 d4)),.i mn4,.i mx4,.d (.sl (encL subs4) subs4.length)]:=rfl
    rw [e1] at g1
    rw [e2] at g4
    rw [e3] at g2
    rw [e4] at g5
    simp only [List.length_cons] at g2 ⊢
    cases q with
    | false =>
      rw [if_neg (by simp),e2]
      refine b153 (by simp) (by simp) (w_init ?_)
      unfold x153
      repeat' (first|(apply r_mvV;rfl)|(apply r_mvS;rfl)|(apply r_p;apply ix_sub (j:=0);rfl;rfl;(simp))|(apply r_l;apply ld_node';exact hs;rfl)|(apply r_callA (f:=127) (ags:=[nodeA t,.d (.val (.int .u8 (x : Nat)))]);rfl;exact hna;exact g1)|(apply r_callA (f:=131);rfl;rfl;exact g3)|(apply r_slN1 (t:=t) (L:=u :: r);rfl;rfl;rfl)|(apply r_mkN (t:=(T.node k a b c d mn mx subs));rfl;((conv=>lhs;simp only [Nat.reduceAdd])<;>rfl))|(apply r_appD (K:=[(T.node k a b c d mn mx subs)]) (L:=u :: r);rfl;rfl;rfl;rfl;rfl;rfl;((conv=>lhs;simp only [Nat.reduceAdd])<;>rfl);(simp only [List.length_cons];omega))|(apply r_callS2 (f:=53) (pre:=[]) (pre':=[]) (post:=[]) (post':=[]) (L:=(T.node k a b c d mn mx subs) :: u :: r);rfl;rfl;rfl;rfl;(simp only [List.length_cons];omega);exact g4;rfl)|(apply r_ldL (v:=.agg [.i k,.d (.val (.int .u64 a)),.d (.val (.int .u64 b)),.d (.val (.int .u64 c)),.d (.val (.int .u64 d)),.i mn,.i mx,.d (.sl (encL subs) subs.length)]);rfl;rfl;rfl)|(apply r_ldL (v:=.agg [.i k2,.d (.val (.int .u64 a2)),.d (.val (.int .u64 b2)),.d (.val (.int .u64 c2)),.d (.val (.int .u64 d2)),.i mn2,.i mx2,.d (.sl (encL subs2) subs2.length)]);rfl;rfl;rfl)|(apply r_eql;rfl;rfl;(first|(apply dT;omega)|(apply dF;omega)|rfl))|(apply r_not;rfl;rfl)|(apply r_lenD;rfl)|(apply r_alloc;((conv=>lhs;simp only [Nat.reduceAdd])<;>rfl);rfl)|(apply r_stL;rfl;rfl;rfl;rfl;(first|rfl|(simp only [z_nil,z_add]<;>rfl));rfl;rfl)|(apply r_nilK)|(apply k_V;rfl)|(apply k_PL;rfl)|(apply k_S;rfl)|(apply k_nil)|(apply e_ret;rfl)|(apply w_seq)|(apply w_ops;((conv=>lhs;simp only [Nat.reduceAdd])<;>rfl))|(apply w_condT;rfl)|(apply w_condF;rfl)|(apply e_thenN)|(apply e_thenR)|(apply w_ret)|(apply w_skip))
      exact .data _ rfl
    | true =>
      rw [if_pos rfl,e4]
      refine b153 (by simp) (by simp) (w_init ?_)
      unfold x153
      repeat' (first|(apply r_mvV;rfl)|(apply r_mvS;rfl)|(apply r_p;apply ix_sub (j:=0);rfl;rfl;(simp))|(apply r_l;apply ld_node';exact hs;rfl)|(apply r_callA (f:=127) (ags:=[nodeA t,.d (.val (.int .u8 (x : Nat)))]);rfl;exact hna;exact g1)|(apply r_callA (f:=131);rfl;rfl;exact g3)|(apply r_callA (f:=153);rfl;rfl;exact g2)|(apply r_slN1 (t:=t) (L:=u :: r);rfl;rfl;rfl)|(apply r_mkN (t:=(T.node k a b c d mn mx subs));rfl;((conv=>lhs;simp only [Nat.reduceAdd])<;>rfl))|(apply r_mkN2 (t:=(T.node k2 a2 b2 c2 d2 mn2 mx2 subs2)) (u:=(T.node k3 a3 b3 c3 d3 mn3 mx3 subs3));rfl;rfl;((conv=>lhs;simp only [Nat.reduceAdd])<;>rfl))|(apply r_appD (K:=[(T.node k a b c d mn mx subs)]) (L:=u :: r);rfl;rfl;rfl;rfl;rfl;rfl;((conv=>lhs;simp only [Nat.reduceAdd])<;>rfl);(simp only [List.length_cons];omega))|(apply r_callS2 (f:=53) (pre:=[]) (pre':=[]) (post:=[]) (post':=[]) (L:=(T.node k a b c d mn mx subs) :: u :: r);rfl;rfl;rfl;rfl;(simp only [List.length_cons];omega);exact g4;rfl)|(apply r_callS2 (f:=54) (pre:=[]) (pre':=[]) (post:=[]) (post':=[]) (L:=[(T.node k2 a2 b2 c2 d2 mn2 mx2 subs2),(T.node k3 a3 b3 c3 d3 mn3 mx3 subs3)]);rfl;rfl;rfl;rfl;rfl;exact g5;rfl)|(apply r_ldL (v:=.agg [.i k,.d (.val (.int .u64 a)),.d (.val (.int .u64 b)),.d (.val (.int .u64 c)),.d (.val (.int .u64 d)),.i mn,.i mx,.d (.sl (encL subs) subs.length)]);rfl;rfl;rfl)|(apply r_ldL (v:=.agg [.i k2,.d (.val (.int .u64 a2)),.d (.val (.int .u64 b2)),.d (.val (.int .u64 c2)),.d (.val (.int .u64 d2)),.i mn2,.i mx2,.d (.sl (encL subs2) subs2.length)]);rfl;rfl;rfl)|(apply r_eql;rfl;rfl;(first|(apply dT;omega)|(apply dF;omega)|rfl))|(apply r_not;rfl;rfl)|(apply r_lenD;rfl)|(apply r_alloc;((conv=>lhs;simp only [Nat.reduceAdd])<;>rfl);rfl)|(apply r_stL;rfl;rfl;rfl;rfl;(first|rfl|(simp only [z_nil,z_add]<;>rfl));rfl;rfl)|(apply r_nilK)|(apply k_V;rfl)|(apply k_PL;rfl)|(apply k_S;rfl)|(apply k_nil)|(apply e_ret;rfl)|(apply w_seq)|(apply w_ops;((conv=>lhs;simp only [Nat.reduceAdd])<;>rfl))|(apply w_condF;rfl)|(apply e_thenN)|(apply w_ret)|(apply w_skip))
      exact .data _ rfl
end Go.Sv
namespace Go.Sv
open Go Go.Proofs
set_option maxRecDepth 100000
set_option maxHeartbeats 4000000
attribute [local irreducible] W E R KP thenK blockK retK Good xwp aRun
theorem by127_of {x : Nat} (hx : x < 256) (t : T) (hok : okT t) (hsf : sfT t) (hc : t.cnt≤4000)
    (hby : ∀ i (h : i < t.subs.length),Good Try.prog 127 [nodeA t.subs[i],.d (.val (.int .u8 (x : Nat)))] none (nodeA (byT x t.subs[i])) none none)
    (hrow : Good Try.prog 153 [.d (.sl (encL t.subs) t.subs.length),.d (.val (.int .u8 (x : Nat)))] none (nodeA (rowD t.subs (byL x t.subs))) none none) :
    Good Try.prog 127 [nodeA t,.d (.val (.int .u8 (x : Nat)))] none (nodeA (byT x t)) none none:=by
  obtain ⟨k,a,b,c,d,mn,mx,subs⟩:=t
  have hp:=okT_plain hok
  have hk:=(plainT_kind hp).1
  have hR:=okT_R hok
  have hoks:=okT_subs hok
  have hsfs : sfL subs:=sfT_subs hsf
  obtain ⟨ha,hb,hcc,hd⟩:=okT_S hok
  simp only [T.subs] at hby hrow
  rw [T.cnt] at hc
  have h54 : Good Try.prog 54 [.d (.sl [] 0)] none (.agg [.i 2,.d (.val (.int .u64 0)),.d (.val (.int .u64 0)),.d (.val (.int .u64 0)),.d (.val (.int .u64 0)),.i 0,.i 0,.d (.sl [] 0)]) none none:=alt54_good [] (by simp [cntL]) (fun t ht=>by simp [flatL] at ht)
  have enn : nodeA noneT=.agg [.i 2,.d (.val (.int .u64 0)),.d (.val (.int .u64 0)),.d (.val (.int .u64 0)),.d (.val (.int .u64 0)),.i 0,.i 0,.d (.sl [] 0)]:=rfl
  have e0 : nodeA (T.node k a b c d mn mx subs)=.agg [.i k,.d (.val (.int .u64 a)),.d (.val (.int .u64 b)),.d (.val (.int .u64 c)),.d (.val (.int .u64 d)),.i mn,.i mx,.d (.sl (encL subs) subs.length)]:=rfl
  rw [e0]
  rcases hk with rfl | rfl | rfl | rfl | rfl
  · rw [show byT x (.node 1 a b c d mn mx subs)=noneT by simp [byT],enn]
    clear hby hrow hoks hsfs hok hsf
    refine b127 (by simp) (by simp) (w_init ?_)
    unfold x127
    repeat' (first|(apply r_mvV;rfl)|(apply r_faddL;rfl)|(apply r_call (f:=54) (bs:=[.d (.sl [] 0)]) (us:=[]);rfl;rfl;exact h54;rfl)|(apply r_ldL;rfl;rfl;rfl)|(apply r_eql;rfl;rfl;(first|(apply dT;omega)|(apply dF;omega)|rfl))|(apply r_alloc;((conv=>lhs;simp only [Nat.reduceAdd])<;>rfl);rfl)|(apply r_box;((conv=>lhs;simp only [Nat.reduceAdd])<;>rfl);rfl;rfl;rfl)|(apply r_stL;rfl;rfl;rfl;rfl;(first|rfl|(simp only [z_nil,z_add]<;>rfl));rfl;rfl)|(apply r_nilK)|(apply k_V;rfl)|(apply k_PL;rfl)|(apply k_nil)|(apply e_ret;rfl)|(apply w_seq)|(apply w_ops;((conv=>lhs;simp only [Nat.reduceAdd])<;>rfl))|(apply w_condF;rfl)|(apply e_thenN)|(apply w_block)|(apply e_blkN)|(apply w_ret)|(apply w_skip))
    exact .data _ rfl
  · have h152:=has152_good (cs:=encN (.node 2 a b c d mn mx subs)) (off:=1) (NodeAt.set (NodeAt.self _)) ha hb hcc hd hx
    have h53 : Good Try.prog 53 [.d (.sl [] 0)] none (.agg [.i 1,.d (.val (.int .u64 0)),.d (.val (.int .u64 0)),.d (.val (.int .u64 0)),.d (.val (.int .u64 0)),.i 0,.i 0,.d (.sl [] 0)]) none none:=cat53_good [] (by simp [cntL])
    have ebt : byT x (.node 2 a b c d mn mx subs)=if inG a b c d x=true then emptyT else noneT:=by simp [byT]
    have enm : nodeA emptyT=.agg [.i 1,.d (.val (.int .u64 0)),.d (.val (.int .u64 0)),.d (.val (.int .u64 0)),.d (.val (.int .u64 0)),.i 0,.i 0,.d (.sl [] 0)]:=rfl
    rw [ebt]
    clear hby hrow hoks hsfs hok hsf ebt
    rcases Bool.eq_false_or_eq_true (inG a b c d x) with hq | hq
    · rw [hq] at h152
      rw [hq,if_pos rfl,enm]
      refine b127 (by simp) (by simp) (w_init ?_)
      unfold x127
      repeat' (first|(apply r_mvV;rfl)|(apply r_faddL;rfl)|(apply r_call (f:=152) (bs:=[.d (.ptr (encN (.node 2 a b c d mn mx subs)) 1),.d (.val (.int .u8 (x : Nat)))]) (us:=[1]);rfl;rfl;exact h152;rfl)|(apply r_call (f:=53) (bs:=[.d (.sl [] 0)]) (us:=[]);rfl;rfl;exact h53;rfl)|(apply r_ldL;rfl;rfl;rfl)|(apply r_eql;rfl;rfl;(first|(apply dT;omega)|(apply dF;omega)|rfl))|(apply r_alloc;((conv=>lhs;simp only [Nat.reduceAdd])<;>rfl);rfl)|(apply r_box;((conv=>lhs;simp only [Nat.reduceAdd])<;>rfl);rfl;rfl;rfl)|(apply r_stL;rfl;rfl;rfl;rfl;(first|rfl|(simp only [z_nil,z_add]<;>rfl));rfl;rfl)|(apply r_nilK)|(apply k_V;rfl)|(apply k_PL;rfl)|(apply k_nil)|(apply e_ret;rfl)|(apply w_seq)|(apply w_ops;((conv=>lhs;simp only [Nat.reduceAdd])<;>rfl))|(apply w_condT;rfl)|(apply e_thenN)|(apply w_block)|(apply e_thenR)|(apply e_blkR)|(apply w_ret))
      exact .data _ rfl
    · rw [hq] at h152
      rw [hq,if_neg (by simp),enn]
      refine b127 (by simp) (by simp) (w_init ?_)
      unfold x127
      repeat' (first|(apply r_mvV;rfl)|(apply r_faddL;rfl)|(apply r_call (f:=152) (bs:=[.d (.ptr (encN (.node 2 a b c d mn mx subs)) 1),.d (.val (.int .u8 (x : Nat)))]) (us:=[1]);rfl;rfl;exact h152;rfl)|(apply r_call (f:=54) (bs:=[.d (.sl [] 0)]) (us:=[]);rfl;rfl;exact h54;rfl)|(apply r_ldL;rfl;rfl;rfl)|(apply r_eql;rfl;rfl;(first|(apply dT;omega)|(apply dF;omega)|rfl))|(apply r_alloc;((conv=>lhs;simp only [Nat.reduceAdd])<;>rfl);rfl)|(apply r_box;((conv=>lhs;simp only [Nat.reduceAdd])<;>rfl);rfl;rfl;rfl)|(apply r_stL;rfl;rfl;rfl;rfl;(first|rfl|(simp only [z_nil,z_add]<;>rfl));rfl;rfl)|(apply r_nilK)|(apply k_V;rfl)|(apply k_PL;rfl)|(apply k_nil)|(apply e_ret;rfl)|(apply w_seq)|(apply w_ops;((conv=>lhs;simp only [Nat.reduceAdd])<;>rfl))|(apply w_condT;rfl)|(apply w_condF;rfl)|(apply e_thenN)|(apply w_block)|(apply e_blkN)|(apply w_ret)|(apply w_skip))
      exact .data _ rfl
  · rw [show byT x (.node 3 a b c d mn mx subs)=rowD subs (byL x subs) by simp [byT]]
    clear hby hoks hsfs hok hsf h54
    generalize rowD subs (byL x subs)=v at hrow ⊢
    obtain ⟨k2,a2,b2,c2,d2,mn2,mx2,subs2⟩:=v
    have e2 : nodeA (T.node k2 a2 b2 c2 d2 mn2 mx2 subs2)=.agg [.i k2,.d (.val (.int .u64 a2)),.d (.val (.int .u64 b2)),.d (.val (.int .u64 c2)),.d (.val (.int .u64 d2)),.i mn2,.i mx2,.d (.sl (encL subs2) subs2.length)]:=rfl
    rw [e2] at hrow ⊢
    refine b127 (by simp) (by simp) (w_init ?_)
    unfold x127
    repeat' (first|(apply r_mvV;rfl)|(apply r_faddL;rfl)|(apply r_callA (f:=153);rfl;rfl;exact hrow)|(apply r_ldL;rfl;rfl;rfl)|(apply r_eql;rfl;rfl;(first|(apply dT;omega)|(apply dF;omega)|rfl))|(apply r_alloc;((conv=>lhs;simp only [Nat.reduceAdd])<;>rfl);rfl)|(apply r_box;((conv=>lhs;simp only [Nat.reduceAdd])<;>rfl);rfl;rfl;rfl)|(apply r_stL;rfl;rfl;rfl;rfl;(first|rfl|(simp only [z_nil,z_add]<;>rfl));rfl;rfl)|(apply r_nilK)|(apply k_V;rfl)|(apply k_PL;rfl)|(apply k_nil)|(apply e_ret;rfl)|(apply w_seq)|(apply w_ops;((conv=>lhs;simp only [Nat.reduceAdd])<;>rfl))|(apply w_condT;rfl)|(apply w_condF;rfl)|(apply e_thenN)|(apply w_block)|(apply e_thenR)|(apply e_blkR)|(apply w_ret))
    exact .data _ rfl
  · have h2 : 2≤subs.length:=(plainT_34 (.inr rfl) hp).2.2.2.2.2.2
    rw [show byT x (.node 4 a b c d mn mx subs)=altS (byL x subs) by simp [byT]]
    obtain ⟨d1,d2,_,d4⟩:=altD_L x subs _ (byL_ok x subs hoks hsfs)
    have hq:=sq_le (c:=cntL subs) (by omega)
    have g5:=alt54_good (byL x subs) (by omega) (okS_flat d1)
    have hlen : subs.length≤4000:=by have:=cntL_len subs;omega
    have hbl:=byL_len x subs
    have hbt : ∀ i,(byL x (subs.take i)).length=(subs.take i).length:=fun i=>byL_len x _
    have hst : ∀ i (h : i < subs.length),byL x (subs.take (i + 1))=byL x (subs.take i)++[byT x subs[i]]:=fun i h=>by
      rw [List.take_succ_eq_append_getElem h,byL_map,byL_map,List.map_append];rfl
    rw [hbl] at g5
    clear hrow hoks hsfs hok hsf h54 d1 d2 d4 hq hc hp
    generalize altS (byL x subs)=v at g5 ⊢
    obtain ⟨k2,a2,b2,c2,d2,mn2,mx2,subs2⟩:=v
    have e2 : nodeA (T.node k2 a2 b2 c2 d2 mn2 mx2 subs2)=.agg [.i k2,.d (.val (.int .u64 a2)),.d (.val (.int .u64 b2)),.d (.val (.int .u64 c2)),.d (.val (.int .u64 d2)),.i mn2,.i mx2,.d (.sl (encL subs2) subs2.length)]:=rfl
    rw [e2] at g5 ⊢
    refine b127 (by simp) (by simp) (w_init ?_)
    unfold x127
    repeat' (first|(apply r_mvV;rfl)|(apply r_faddL;rfl)|(apply r_ldL;rfl;rfl;rfl)|(apply r_eql;rfl;rfl;(first|(apply dT;omega)|(apply dF;omega)|rfl))|(apply r_lenD;rfl)|(apply r_alloc;((conv=>lhs;simp only [Nat.reduceAdd])<;>rfl);rfl)|(apply r_box;((conv=>lhs;simp only [Nat.reduceAdd])<;>rfl);rfl;rfl;rfl)|(apply r_nilK)|(apply k_V;rfl)|(apply k_PL;rfl)|(apply k_S;rfl)|(apply k_nil)|(apply w_seq)|(apply w_ops;((conv=>lhs;simp only [Nat.reduceAdd])<;>rfl))|(apply w_condT;rfl)|(apply w_condF;rfl)|(apply e_thenN)|(apply w_block))
    apply w_loopI (S:=fun i : Nat=>⟨((((((Fr.nil.put 1 (.d (.val (.int .u8 (x : Nat))))).put 4 (.ptrL 2 0)).put 5 (.slL 50 0 i 8)).put 27 (.d (.sl (encL subs) subs.length))).put 28 (.i subs.length)).put 29 (.i i)),rowsOf [(2,zeroA zsN),(50,(encL (byL x (subs.take i))).map AV.d)],Frz.buts 100 [2,50],100⟩) (m:=fun i=>subs.length - i) (I:=fun i=>i≤subs.length) (i0:=0)
    · exact Nat.zero_le _
    · refine wkM [] [50] rfl ?_ ?_ rfl ?_
      · intro p hp
        simp only [List.mem_cons,List.not_mem_nil,or_false] at hp
        rcases hp with rfl | rfl
        · exact ⟨by omega,.inr ⟨rfl,_,rfl,.data rfl⟩⟩
        · exact ⟨by omega,.inl ⟨rfl,rfl⟩⟩
      · intro q hq;simp only [List.mem_cons,List.not_mem_nil,or_false] at hq;rcases hq with rfl | rfl<;>rfl
      · repeat' (first|exact FWk.nil|(apply FWk.i;rfl;(first|rfl|omega|(simp;done)))|(apply FWk.ptr;rfl;rfl;rfl;omega;rfl)|(apply FWk.d;rfl;rfl)|(apply FWk.slN;rfl;omega;rfl))
    intro i K hi hK
    dsimp only
    rcases Nat.lt_or_ge i subs.length with hlt | hge
    · have hg:=hby i hlt
      have hs:=NodeAt.sub hlt
      have hst1:=hst i hlt
      have hb1:=hbt i
      rw [List.length_take,Nat.min_eq_left hi] at hb1
      have hK':=hK (i + 1)
      rw [hst1] at hK'
      clear hst hbt hst1 hby hK
      generalize byL x (subs.take i)=K1 at hb1 hK'
      generalize byT x subs[i]=u at hg hK'
      generalize subs[i]=v at hg hs
      obtain ⟨k3,a3,b3,c3,d3,mn3,mx3,subs3⟩:=v
      obtain ⟨k4,a4,b4,c4,d4,mn4,mx4,subs4⟩:=u
      have e3 : nodeA (T.node k3 a3 b3 c3 d3 mn3 mx3 subs3)=.agg [.i k3,.d (.val (.int .u64 a3)),.d (.val (.int .u64 b3)),.d (.val (.int .u64 c3)),.d (.val (.int .u64 d3)),.i mn3,.i mx3,.d (.sl (encL subs3) subs3.length)]:=rfl
      have e4 : nodeA (T.node k4 a4 b4 c4 d4 mn4 mx4 subs4)=.agg [.i k4,.d (.val (.int .u64 a4)),.d (.val (.int .u64 b4)),.d (.val (.int .u64 c4)),.d (.val (.int .u64 d4)),.i mn4,.i mx4,.d (.sl (encL subs4) subs4.length)]:=rfl
      rw [e3,e4] at hg
      repeat' (first|(apply r_mvV;rfl)|(apply r_mvSL;rfl)|(apply r_p;apply ix_sub;rfl;rfl;omega)|(apply r_l (v:=.agg [.i k3,.d (.val (.int .u64 a3)),.d (.val (.int .u64 b3)),.d (.val (.int .u64 c3)),.d (.val (.int .u64 d3)),.i mn3,.i mx3,.d (.sl (encL subs3) subs3.length)]);exact ld_node hs rfl)|(apply r_ldL (v:=.agg [.i k3,.d (.val (.int .u64 a3)),.d (.val (.int .u64 b3)),.d (.val (.int .u64 c3)),.d (.val (.int .u64 d3)),.i mn3,.i mx3,.d (.sl (encL subs3) subs3.length)]);rfl;rfl;rfl)|(apply r_callA (f:=127);rfl;rfl;exact hg)|(apply r_mkN (t:=(T.node k4 a4 b4 c4 d4 mn4 mx4 subs4));rfl;((conv=>lhs;simp only [Nat.reduceAdd])<;>rfl))|(apply r_appE (K:=K1) (L:=[(T.node k4 a4 b4 c4 d4 mn4 mx4 subs4)]);rfl;rfl;rfl;rfl;exact hb1;rfl;rfl;((conv=>lhs;simp only [Nat.reduceAdd])<;>rfl);omega)|(apply r_lss;rfl;rfl;(first|(apply dT;omega)|(apply dF;omega)|rfl))|(apply r_add;rfl;rfl;rfl;omega)|(apply r_alloc;((conv=>lhs;simp only [Nat.reduceAdd])<;>rfl);rfl)|(apply r_stL;rfl;rfl;rfl;rfl;(first|rfl|(simp only [z_nil,z_add]<;>rfl));rfl;rfl)|(apply r_nilK)|(apply k_V;rfl)|(apply k_PL;rfl)|(apply k_S;rfl)|(apply k_SL;rfl)|(apply k_nil)|(apply w_seq)|(apply w_ops;((conv=>lhs;simp only [Nat.reduceAdd])<;>rfl))|(apply w_condT;rfl)|(apply e_thenN)|(apply w_block)|(apply e_blkN)|(apply w_skip))
      apply e_thenK
      apply hK'
      · omega
      · omega
      · refine wkM [(50,110)] [] rfl ?_ ?_ rfl ?_
        · intro p hp
          simp only [List.mem_cons,List.not_mem_nil,or_false] at hp
          rcases hp with rfl | rfl
          · exact ⟨by omega,.inr ⟨rfl,_,rfl,.data rfl⟩⟩
          · exact ⟨by omega,.inr ⟨rfl,_,rfl,.data (isD_encL _)⟩⟩
        · intro q hq;simp only [List.mem_cons,List.not_mem_nil,or_false] at hq;rcases hq with rfl | rfl<;>rfl
        · repeat' (first|exact FWk.nil|(apply FWk.i;rfl;(first|rfl|omega|(simp;done)))|(apply FWk.sl;rfl;rfl;rfl;rfl;omega;rfl)|(apply FWk.ptr;rfl;rfl;rfl;omega;rfl)|(apply FWk.d;rfl;rfl))
    · rw [List.take_of_length_le hge]
      have ei : i=subs.length:=by omega
      subst ei
      match subs,h2,hbl,g5 with
      | y :: z,_,hbl,g5 =>
      repeat' (first|(apply r_mvSL;rfl)|(apply r_callS2 (f:=54) (pre:=[]) (pre':=[]) (post:=[]) (post':=[]) (L:=byL x (y :: z));rfl;rfl;rfl;rfl;exact hbl;exact g5;rfl)|(apply r_lss;rfl;rfl;(first|(apply dT;omega)|(apply dF;omega)|rfl))|(apply r_stL;rfl;rfl;rfl;rfl;(first|rfl|(simp only [z_nil,z_add]<;>rfl));rfl;rfl)|(apply r_nilK)|(apply k_V;rfl)|(apply k_PL;rfl)|(apply k_S;rfl)|(apply k_SL;rfl)|(apply k_nil)|(apply e_ret;rfl)|(apply w_seq)|(apply w_ops;((conv=>lhs;simp only [Nat.reduceAdd])<;>rfl))|(apply w_condF;rfl)|(apply e_thenN)|(apply e_thenR)|(apply e_thenX)|(apply e_blkR)|(apply e_blkE)|(apply w_exit)|(apply w_ret))
      exact .data _ rfl
  · obtain ⟨u,rfl⟩:=plainT_5 hp
    have hr:=hR rfl
    by_cases hm : mx=0
    · rw [show byT x (.node 5 a b c d mn mx [u])=noneT by simp [byT,hm],enn]
      clear hby hrow hoks hsfs hok hsf
      subst hm
      refine b127 (by simp) (by simp) (w_init ?_)
      unfold x127
      repeat' (first|(apply r_mvV;rfl)|(apply r_faddL;rfl)|(apply r_call (f:=54) (bs:=[.d (.sl [] 0)]) (us:=[]);rfl;rfl;exact h54;rfl)|(apply r_ldL;rfl;rfl;rfl)|(apply r_eql;rfl;rfl;(first|(apply dT;omega)|(apply dF;omega)|rfl))|(apply r_alloc;((conv=>lhs;simp only [Nat.reduceAdd])<;>rfl);rfl)|(apply r_box;((conv=>lhs;simp only [Nat.reduceAdd])<;>rfl);rfl;rfl;rfl)|(apply r_stL;rfl;rfl;rfl;rfl;(first|rfl|(simp only [z_nil,z_add]<;>rfl));rfl;rfl)|(apply r_nilK)|(apply k_V;rfl)|(apply k_PL;rfl)|(apply k_nil)|(apply e_ret;rfl)|(apply w_seq)|(apply w_ops;((conv=>lhs;simp only [Nat.reduceAdd])<;>rfl))|(apply w_condT;rfl)|(apply w_condF;rfl)|(apply e_thenN)|(apply w_block)|(apply e_thenX)|(apply e_blkE)|(apply w_exit)|(apply w_ret))
      exact .data _ rfl
    have g1:=hby 0 (by simp)
    simp only [List.getElem_cons_zero] at g1
    simp only [okL] at hoks
    simp only [sfL] at hsfs
    simp only [cntL] at hc
    obtain ⟨d1,d2,_,d4⟩:=byT_ok x u hoks.1 hsfs.1
    have hq:=sq_le (c:=u.cnt) (by omega)
    have hs : NodeAt (encL [u]) (0 * 8) u:=NodeAt.sub (l:=[u]) (i:=0) (by simp)
    by_cases hmp : 0 < mx
    · rw [show byT x (.node 5 a b c d mn mx [u])=catS [byT x u,repS u (max (mn - 1) 0) (mx - 1)] by simp [byT,hm,byL,repD,hmp]]
      have g2:=rep55_good 4000 u (by omega) (by omega) (max (mn - 1) 0) (mx - 1) (by unfold inW;omega) (by unfold inW;omega)
      have hcr:=cnt_rep u (max (mn - 1) 0) (mx - 1)
      have g3:=cat53_good [byT x u,repS u (max (mn - 1) 0) (mx - 1)] (by simp only [cntL];omega)
      clear hby hrow hoks hsfs hok hsf hc d1 d2 d4 hq hcr hp hR
      generalize catS [byT x u,repS u (max (mn - 1) 0) (mx - 1)]=v3 at g3 ⊢
      generalize repS u (max (mn - 1) 0) (mx - 1)=v2 at g2 g3
      generalize byT x u=v1 at g1 g3
      obtain ⟨k5,a5,b5,c5,d5,mn5,mx5,subs5⟩:=u
      obtain ⟨k2,a2,b2,c2,d2,mn2,mx2,subs2⟩:=v1
      obtain ⟨k3,a3,b3,c3,d3,mn3,mx3,subs3⟩:=v2
      obtain ⟨k4,a4,b4,c4,d4,mn4,mx4,subs4⟩:=v3
      have e2 : nodeA (T.node k2 a2 b2 c2 d2 mn2 mx2 subs2)=.agg [.i k2,.d (.val (.int .u64 a2)),.d (.val (.int .u64 b2)),.d (.val (.int .u64 c2)),.d (.val (.int .u64 d2)),.i mn2,.i mx2,.d (.sl (encL subs2) subs2.length)]:=rfl
      have e3 : nodeA (T.node k3 a3 b3 c3 d3 mn3 mx3 subs3)=.agg [.i k3,.d (.val (.int .u64 a3)),.d (.val (.int .u64 b3)),.d (.val (.int .u64 c3)),.d (.val (.int .u64 d3)),.i mn3,.i mx3,.d (.sl (encL subs3) subs3.length)]:=rfl
      have e4 : nodeA (T.node k4 a4 b4 c4 d4 mn4 mx4 subs4)=.agg [.i k4,.d (.val (.int .u64 a4)),.d (.val (.int .u64 b4)),.d (.val (.int .u64 c4)),.d (.val (.int .u64 d4)),.i mn4,.i mx4,.d (.sl (encL subs4) subs4.length)]:=rfl
      have e5 : nodeA (T.node k5 a5 b5 c5 d5 mn5 mx5 subs5)=.agg [.i k5,.d (.val (.int .u64 a5)),.d (.val (.int .u64 b5)),.d (.val (.int .u64 c5)),.d (.val (.int .u64 d5)),.i mn5,.i mx5,.d (.sl (encL subs5) subs5.length)]:=rfl
      rw [e5] at g1 g2
      rw [e2] at g1
      rw [e3] at g2
      rw [e4] at g3 ⊢
      refine b127 (by simp) (by simp) (w_init ?_)
      unfold x127
      repeat' (first|(apply r_mvV;rfl)|(apply r_faddL;rfl)|(apply r_l (v:=.agg [.i k5,.d (.val (.int .u64 a5)),.d (.val (.int .u64 b5)),.d (.val (.int .u64 c5)),.d (.val (.int .u64 d5)),.i mn5,.i mx5,.d (.sl (encL subs5) subs5.length)]);exact ld_node hs rfl)|(apply r_p;apply ix_sub (j:=0);rfl;rfl;(simp))|(apply r_ldL (v:=.agg [.i k5,.d (.val (.int .u64 a5)),.d (.val (.int .u64 b5)),.d (.val (.int .u64 c5)),.d (.val (.int .u64 d5)),.i mn5,.i mx5,.d (.sl (encL subs5) subs5.length)]);rfl;rfl;rfl)|(apply r_callA (f:=127);rfl;rfl;exact g1)|(apply r_callA (f:=55);rfl;rfl;exact g2)|(apply r_mkN2 (t:=(T.node k2 a2 b2 c2 d2 mn2 mx2 subs2)) (u:=(T.node k3 a3 b3 c3 d3 mn3 mx3 subs3));rfl;rfl;((conv=>lhs;simp only [Nat.reduceAdd])<;>rfl))|(apply r_callS2 (f:=53) (pre:=[]) (pre':=[]) (post:=[]) (post':=[]) (L:=[(T.node k2 a2 b2 c2 d2 mn2 mx2 subs2),(T.node k3 a3 b3 c3 d3 mn3 mx3 subs3)]);rfl;rfl;rfl;rfl;rfl;exact g3;rfl)|(apply r_ldL;rfl;rfl;rfl)|(apply r_eql;rfl;rfl;(first|(apply dT;omega)|(apply dF;omega)|rfl))|(apply r_gtr;rfl;rfl;(first|(apply dT;omega)|(apply dF;omega)|rfl))|(apply r_sub;rfl;rfl;rfl;omega)|(apply r_max2;rfl;rfl;rfl)|(apply r_alloc;((conv=>lhs;simp only [Nat.reduceAdd])<;>rfl);rfl)|(apply r_box;((conv=>lhs;simp only [Nat.reduceAdd])<;>rfl);rfl;rfl;rfl)|(apply r_stL;rfl;rfl;rfl;rfl;(first|rfl|(simp only [z_nil,z_add]<;>rfl));rfl;rfl)|(apply r_nilK)|(apply k_V;rfl)|(apply k_PL;rfl)|(apply k_nil)|(apply e_ret;rfl)|(apply w_seq)|(apply w_ops;((conv=>lhs;simp only [Nat.reduceAdd])<;>rfl))|(apply w_condT;rfl)|(apply w_condF;rfl)|(apply e_thenN)|(apply w_block)|(apply e_thenR)|(apply e_blkR)|(apply w_ret)|(apply w_skip))
      exact .data _ rfl
    · rw [show byT x (.node 5 a b c d mn mx [u])=catS [byT x u,repS u (max (mn - 1) 0) mx] by simp [byT,hm,byL,repD,hmp]]
      have g2:=rep55_good 4000 u (by omega) (by omega) (max (mn - 1) 0) mx (by unfold inW;omega) (by unfold inW;omega)
      have hcr:=cnt_rep u (max (mn - 1) 0) mx
      have g3:=cat53_good [byT x u,repS u (max (mn - 1) 0) mx] (by simp only [cntL];omega)
      clear hby hrow hoks hsfs hok hsf hc d1 d2 d4 hq hcr hp hR
      generalize catS [byT x u,repS u (max (mn - 1) 0) mx]=v3 at g3 ⊢
      generalize repS u (max (mn - 1) 0) mx=v2 at g2 g3
      generalize byT x u=v1 at g1 g3
      obtain ⟨k5,a5,b5,c5,d5,mn5,mx5,subs5⟩:=u
      obtain ⟨k2,a2,b2,c2,d2,mn2,mx2,subs2⟩:=v1
      obtain ⟨k3,a3,b3,c3,d3,mn3,mx3,subs3⟩:=v2
      obtain ⟨k4,a4,b4,c4,d4,mn4,mx4,subs4⟩:=v3
      have e2 : nodeA (T.node k2 a2 b2 c2 d2 mn2 mx2 subs2)=.agg [.i k2,.d (.val (.int .u64 a2)),.d (.val (.int .u64 b2)),.d (.val (.int .u64 c2)),.d (.val (.int .u64 d2)),.i mn2,.i mx2,.d (.sl (encL subs2) subs2.length)]:=rfl
      have e3 : nodeA (T.node k3 a3 b3 c3 d3 mn3 mx3 subs3)=.agg [.i k3,.d (.val (.int .u64 a3)),.d (.val (.int .u64 b3)),.d (.val (.int .u64 c3)),.d (.val (.int .u64 d3)),.i mn3,.i mx3,.d (.sl (encL subs3) subs3.length)]:=rfl
      have e4 : nodeA (T.node k4 a4 b4 c4 d4 mn4 mx4 subs4)=.agg [.i k4,.d (.val (.int .u64 a4)),.d (.val (.int .u64 b4)),.d (.val (.int .u64 c4)),.d (.val (.int .u64 d4)),.i mn4,.i mx4,.d (.sl (encL subs4) subs4.length)]:=rfl
      have e5 : nodeA (T.node k5 a5 b5 c5 d5 mn5 mx5 subs5)=.agg [.i k5,.d (.val (.int .u64 a5)),.d (.val (.int .u64 b5)),.d (.val (.int .u64 c5)),.d (.val (.int .u64 d5)),.i mn5,.i mx5,.d (.sl (encL subs5) subs5.length)]:=rfl
      rw [e5] at g1 g2
      rw [e2] at g1
      rw [e3] at g2
      rw [e4] at g3 ⊢
      refine b127 (by simp) (by simp) (w_init ?_)
      unfold x127
      repeat' (first|(apply r_mvV;rfl)|(apply r_faddL;rfl)|(apply r_l (v:=.agg [.i k5,.d (.val (.int .u64 a5)),.d (.val (.int .u64 b5)),.d (.val (.int .u64 c5)),.d (.val (.int .u64 d5)),.i mn5,.i mx5,.d (.sl (encL subs5) subs5.length)]);exact ld_node hs rfl)|(apply r_p;apply ix_sub (j:=0);rfl;rfl;(simp))|(apply r_ldL (v:=.agg [.i k5,.d (.val (.int .u64 a5)),.d (.val (.int .u64 b5)),.d (.val (.int .u64 c5)),.d (.val (.int .u64 d5)),.i mn5,.i mx5,.d (.sl (encL subs5) subs5.length)]);rfl;rfl;rfl)|(apply r_callA (f:=127);rfl;rfl;exact g1)|(apply r_callA (f:=55);rfl;rfl;exact g2)|(apply r_mkN2 (t:=(T.node k2 a2 b2 c2 d2 mn2 mx2 subs2)) (u:=(T.node k3 a3 b3 c3 d3 mn3 mx3 subs3));rfl;rfl;((conv=>lhs;simp only [Nat.reduceAdd])<;>rfl))|(apply r_callS2 (f:=53) (pre:=[]) (pre':=[]) (post:=[]) (post':=[]) (L:=[(T.node k2 a2 b2 c2 d2 mn2 mx2 subs2),(T.node k3 a3 b3 c3 d3 mn3 mx3 subs3)]);rfl;rfl;rfl;rfl;rfl;exact g3;rfl)|(apply r_ldL;rfl;rfl;rfl)|(apply r_eql;rfl;rfl;(first|(apply dT;omega)|(apply dF;omega)|rfl))|(apply r_gtr;rfl;rfl;(first|(apply dT;omega)|(apply dF;omega)|rfl))|(apply r_sub;rfl;rfl;rfl;omega)|(apply r_max2;rfl;rfl;rfl)|(apply r_alloc;((conv=>lhs;simp only [Nat.reduceAdd])<;>rfl);rfl)|(apply r_box;((conv=>lhs;simp only [Nat.reduceAdd])<;>rfl);rfl;rfl;rfl)|(apply r_stL;rfl;rfl;rfl;rfl;(first|rfl|(simp only [z_nil,z_add]<;>rfl));rfl;rfl)|(apply r_nilK)|(apply k_V;rfl)|(apply k_PL;rfl)|(apply k_nil)|(apply e_ret;rfl)|(apply w_seq)|(apply w_ops;((conv=>lhs;simp only [Nat.reduceAdd])<;>rfl))|(apply w_condT;rfl)|(apply w_condF;rfl)|(apply e_thenN)|(apply w_block)|(apply e_thenR)|(apply e_blkR)|(apply w_ret)|(apply w_skip))
      exact .data _ rfl
theorem by_row {x : Nat} (hx : x < 256) : ∀ n : Nat,n≤4000→(∀ t : T,okT t→sfT t→t.cnt≤n→Good Try.prog 127 [nodeA t,.d (.val (.int .u8 (x : Nat)))] none (nodeA (byT x t)) none none)∧(∀ l : List T,okL l→sfL l→cntL l≤n→Good Try.prog 153 [.d (.sl (encL l) l.length),.d (.val (.int .u8 (x : Nat)))] none (nodeA (rowD l (byL x l))) none none):=by
  intro n
  induction n with
  | zero =>
    intro _
    refine ⟨fun t _ _ h=>absurd (cnt_pos t) (by omega),fun l hok hsf hc=>?_⟩
    match l,hok,hsf,hc with
    | [],hok,hsf,_=>exact row153_of [] hok hsf (by simp [cntL]) (fun t r h=>by cases h) (fun t r h=>by cases h)
    | t :: r,_,_,hc=>exact absurd (cnt_pos t) (by rw [cntL] at hc;omega)
  | succ n ih =>
    intro hn
    obtain ⟨i1,i2⟩:=ih (by omega)
    have hb : ∀ t : T,okT t→sfT t→t.cnt≤n + 1→Good Try.prog 127 [nodeA t,.d (.val (.int .u8 (x : Nat)))] none (nodeA (byT x t)) none none:=by
      intro t hok hsf hc
      have h1:=okT_subs' hok
      have h2:=sfT_subs hsf
      have h3 : cntL t.subs≤n:=by cases t;simp only [T.subs,T.cnt] at hc ⊢;omega
      refine by127_of hx t hok hsf (by omega) (fun i h=>?_) (i2 _ h1 h2 h3)
      refine i1 _ (okL_get _ i h h1) ((sfL_iff _).1 h2 _ (List.getElem_mem h)) ?_
      have:=cntL_get t.subs i h
      omega
    refine ⟨hb,fun l hok hsf hc=>?_⟩
    match l,hok,hsf,hc with
    | [],hok,hsf,_=>exact row153_of [] hok hsf (by simp [cntL]) (fun t r h=>by cases h) (fun t r h=>by cases h)
    | t :: r,hok,hsf,hc =>
      have hct:=cnt_pos t
      simp only [cntL] at hc
      refine row153_of (t :: r) hok hsf (by simp only [cntL];omega) (fun t' r' h=>?_) (fun t' r' h=>?_)
      · injection h with h1 h2
        subst h1
        exact hb t hok.1 hsf.1 (by omega)
      · injection h with h1 h2
        subst h2
        exact i2 r hok.2 hsf.2 (by omega)
end Go.Sv
namespace Go.Sv
open Go Go.Proofs
set_option maxRecDepth 100000
set_option maxHeartbeats 4000000
attribute [local irreducible] W E R KP thenK blockK retK Good xwp aRun
end Go.Sv
namespace Go.Sv
open Go Go.Proofs
def Ored (p q p2 : List Bool) (k : Nat) : Prop:=p2.length=p.length∧∀ n,At p2 n↔At p n ∨ (n < k∧At q n)
theorem Ored.zero (p q : List Bool) : Ored p q p 0:=⟨rfl,fun n=>⟨.inl,fun h=>h.elim id fun h=>absurd h.1 (by omega)⟩⟩
theorem Ored.step {p q p2 : List Bool} {k : Nat} (h : Ored p q p2 k) (hk : k < p.length) : Ored p q (p2.set k (p2.getD k false || q.getD k false)) (k + 1):=by
  refine ⟨by rw [List.length_set];exact h.1,fun n=>?_⟩
  rw [at_set n (by rw [h.1];exact hk),h.2 n]
  have hv : (p2.getD k false || q.getD k false)=true↔At p2 k ∨ At q k:=by simp [At]
  rw [hv,h.2 k]
  constructor
  · rintro (⟨rfl,(h1 | h1) | h1⟩ | ⟨h1,h2 | h2⟩)
    · exact .inl h1
    · exact .inr ⟨by omega,h1.2⟩
    · exact .inr ⟨by omega,h1⟩
    · exact .inl h2
    · exact .inr ⟨by omega,h2.2⟩
  · rintro (h1 | ⟨h1,h2⟩)
    · by_cases e : n=k
      · subst e;exact .inl ⟨rfl,.inl (.inl h1)⟩
      · exact .inr ⟨e,.inl h1⟩
    · by_cases e : n=k
      · subst e;exact .inl ⟨rfl,.inr h2⟩
      · exact .inr ⟨e,.inr ⟨by omega,h2⟩⟩
set_option maxRecDepth 100000
set_option maxHeartbeats 4000000
attribute [local irreducible] W E R KP thenK blockK retK Good xwp aRun
noncomputable def nullS (t : T) : Bool:=@decide (L t []) (Classical.propDecidable _)
end Go.Sv
namespace Go.Sv
open Go Go.Proofs
section
variable {P : Program} {Q : Cont} {fr : Fr} {C : Heap} {Z : Frz} {nx : Nat} {base n d : Nat} {l : List (Nat × XO)} {kp : Option (List Nat)} {x i y s : X}
end
set_option maxRecDepth 100000
set_option maxHeartbeats 4000000
attribute [local irreducible] W E R KP thenK blockK retK Good xwp aRun
end Go.Sv
namespace Go.Sv
open Go Go.Proofs
set_option maxRecDepth 100000
set_option maxHeartbeats 4000000
attribute [local irreducible] W E R KP thenK blockK retK Good xwp aRun
def nxT (x : Nat) (t : T) : T:=if 4000 < (byT x t).cnt then zT else byT x t
def nxE (x : Nat) (t : T) : Int:=if 4000 < (byT x t).cnt then 11 else 0
theorem next128_good {x : Nat} (hx : x < 256) (t : T) (hd : DOK t) : Good Try.prog 128 [nodeA t,.d (.val (.int .u8 (x : Nat)))] none (.tup [nodeA (nxT x t),.i (nxE x t)]) none none:=by
  have g1:=(by_row hx 4000 (Nat.le_refl _)).1 t hd.1 hd.2.1 hd.2.2
  obtain ⟨_,_,_,d4⟩:=byT_ok x t hd.1 hd.2.1
  have hq:=sq_le hd.2.2
  have g2:=great154_good 100000000 (byT x t) (encN (byT x t)) 0 (NodeAt.self _) (by omega) (Nat.le_refl _) 4000 (by omega) (by omega)
  unfold nxT nxE
  generalize byT x t=v at g1 g2 d4 ⊢
  generalize hv : v.cnt=ct at g2 d4 ⊢
  have ez : nodeA zT=.agg [.i 0,.d (.val (.int .u64 0)),.d (.val (.int .u64 0)),.d (.val (.int .u64 0)),.d (.val (.int .u64 0)),.i 0,.i 0,.d (.sl [] 0)]:=rfl
  clear hd d4 hq hv
  by_cases hc : 4000 < ct
  · rw [if_pos hc,if_pos hc,ez]
    have e : max ((4000 : Int) - (ct : Nat)) (-1)=-1:=by omega
    rw [e] at g2
    obtain ⟨k,a,b,c,d,mn,mx,subs⟩:=t
    obtain ⟨k2,a2,b2,c2,d2,mn2,mx2,subs2⟩:=v
    have e1 : nodeA (T.node k a b c d mn mx subs)=.agg [.i k,.d (.val (.int .u64 a)),.d (.val (.int .u64 b)),.d (.val (.int .u64 c)),.d (.val (.int .u64 d)),.i mn,.i mx,.d (.sl (encL subs) subs.length)]:=rfl
    have e2 : nodeA (T.node k2 a2 b2 c2 d2 mn2 mx2 subs2)=.agg [.i k2,.d (.val (.int .u64 a2)),.d (.val (.int .u64 b2)),.d (.val (.int .u64 c2)),.d (.val (.int .u64 d2)),.i mn2,.i mx2,.d (.sl (encL subs2) subs2.length)]:=rfl
    rw [e1,e2] at g1
    rw [e1]
    refine b128 (by simp) (by simp) (w_init ?_)
    unfold x128
    repeat' (first|(apply r_mvV;rfl)|(apply r_callA (f:=127);rfl;rfl;exact g1)|(apply r_call (f:=154) (bs:=[.d (.ptr (encN (T.node k2 a2 b2 c2 d2 mn2 mx2 subs2)) 0),.i 4000]) (us:=[1]);rfl;rfl;exact g2;rfl)|(apply r_ldL (v:=.agg [.i k,.d (.val (.int .u64 a)),.d (.val (.int .u64 b)),.d (.val (.int .u64 c)),.d (.val (.int .u64 d)),.i mn,.i mx,.d (.sl (encL subs) subs.length)]);rfl;rfl;rfl)|(apply r_p (v:=.agg [.i 0,.d (.val (.int .u64 0)),.d (.val (.int .u64 0)),.d (.val (.int .u64 0)),.d (.val (.int .u64 0)),.i 0,.i 0,.d (.val (.slice none 0 0))]);rfl)|(apply r_lss;rfl;rfl;(first|(apply dT;omega)|(apply dF;omega)|rfl))|(apply r_alloc;((conv=>lhs;simp only [Nat.reduceAdd])<;>rfl);rfl)|(apply r_box;((conv=>lhs;simp only [Nat.reduceAdd])<;>rfl);rfl;rfl;rfl)|(apply r_stL;rfl;rfl;rfl;rfl;(first|rfl|(simp only [z_nil,z_add]<;>rfl));rfl;rfl)|(apply r_nilK)|(apply k_V;rfl)|(apply k_PL;rfl)|(apply k_nil)|(apply e_ret;rfl)|(apply w_seq)|(apply w_ops;((conv=>lhs;simp only [Nat.reduceAdd])<;>rfl))|(apply w_condT;rfl)|(apply e_thenN)|(apply e_thenR)|(apply w_ret))
    exact .data _ rfl
  · rw [if_neg hc,if_neg hc]
    have e : max ((4000 : Int) - (ct : Nat)) (-1)=4000 - (ct : Nat):=by omega
    rw [e] at g2
    obtain ⟨k,a,b,c,d,mn,mx,subs⟩:=t
    obtain ⟨k2,a2,b2,c2,d2,mn2,mx2,subs2⟩:=v
    have e1 : nodeA (T.node k a b c d mn mx subs)=.agg [.i k,.d (.val (.int .u64 a)),.d (.val (.int .u64 b)),.d (.val (.int .u64 c)),.d (.val (.int .u64 d)),.i mn,.i mx,.d (.sl (encL subs) subs.length)]:=rfl
    have e2 : nodeA (T.node k2 a2 b2 c2 d2 mn2 mx2 subs2)=.agg [.i k2,.d (.val (.int .u64 a2)),.d (.val (.int .u64 b2)),.d (.val (.int .u64 c2)),.d (.val (.int .u64 d2)),.i mn2,.i mx2,.d (.sl (encL subs2) subs2.length)]:=rfl
    rw [e1,e2] at g1
    rw [e1,e2]
    refine b128 (by simp) (by simp) (w_init ?_)
    unfold x128
    repeat' (first|(apply r_mvV;rfl)|(apply r_callA (f:=127);rfl;rfl;exact g1)|(apply r_call (f:=154) (bs:=[.d (.ptr (encN (T.node k2 a2 b2 c2 d2 mn2 mx2 subs2)) 0),.i 4000]) (us:=[1]);rfl;rfl;exact g2;rfl)|(apply r_ldL (v:=.agg [.i k,.d (.val (.int .u64 a)),.d (.val (.int .u64 b)),.d (.val (.int .u64 c)),.d (.val (.int .u64 d)),.i mn,.i mx,.d (.sl (encL subs) subs.length)]);rfl;rfl;rfl)|(apply r_ldL (v:=.agg [.i k2,.d (.val (.int .u64 a2)),.d (.val (.int .u64 b2)),.d (.val (.int .u64 c2)),.d (.val (.int .u64 d2)),.i mn2,.i mx2,.d (.sl (encL subs2) subs2.length)]);rfl;rfl;rfl)|(apply r_lss;rfl;rfl;(first|(apply dT;omega)|(apply dF;omega)|rfl))|(apply r_alloc;((conv=>lhs;simp only [Nat.reduceAdd])<;>rfl);rfl)|(apply r_box;((conv=>lhs;simp only [Nat.reduceAdd])<;>rfl);rfl;rfl;rfl)|(apply r_stL;rfl;rfl;rfl;rfl;(first|rfl|(simp only [z_nil,z_add]<;>rfl));rfl;rfl)|(apply r_nilK)|(apply k_V;rfl)|(apply k_PL;rfl)|(apply k_nil)|(apply e_ret;rfl)|(apply w_seq)|(apply w_ops;((conv=>lhs;simp only [Nat.reduceAdd])<;>rfl))|(apply w_condF;rfl)|(apply e_thenN)|(apply w_ret)|(apply w_skip))
    exact .data _ rfl
def wdT (s : ByteArray) (t : T) : T:=(dS s t 0 s.size).getD zT
def wdE (s : ByteArray) (t : T) : Int:=if (dS s t 0 s.size).isSome=true then 0 else 11
theorem dS_none {s : ByteArray} {t : T} {j k : Nat} (h : dS s t j k=none) : ∀ m,dS s t j (k + m)=none
  | 0=>h
  | m + 1=>by rw [← Nat.add_assoc,dS,dS_none h m];rfl
theorem nx_dS {s : ByteArray} {t u : T} {k : Nat} (h : dS s t 0 k=some u) : dS s t 0 (k + 1)=if 4000 < (byT (byteN s k) u).cnt then none else some (byT (byteN s k) u):=by
  have:=dS_step h
  rw [Nat.zero_add] at this
  exact this
def wrN (s : ByteArray) (t : T) : T:=if fitsT t 12=true then wdT s (simT t) else zT
def wrE (s : ByteArray) (t : T) : Int:=if fitsT t 12=true then wdE s (simT t) else 1
theorem Word78_good (s : ByteArray) (hs : s.size≤1000000) (t : T) (hc : t.cnt≤4000) (hok : fitsT t 12=true→okT t) : Good Try.prog 78 [nodeA t,.d (.val (.string s))] none (.tup [nodeA (wrN s t),.i (wrE s t)]) none none:=by
  have h46:=Simple46_good t (by omega) hok
  have ez : nodeA zT=.agg [.i 0,.d (.val (.int .u64 0)),.d (.val (.int .u64 0)),.d (.val (.int .u64 0)),.d (.val (.int .u64 0)),.i 0,.i 0,.d (.sl [] 0)]:=rfl
  have key : ∀ (i : Nat) (u : T) (e : Int),(i≤s.size∧((e=0∧DOK u∧fitsT t 12=true∧dS s (simT t) 0 i=some u) ∨ (e ≠ 0∧u=wrN s t∧e=wrE s t))) →
      (e=0→i < s.size→DOK u∧(i + 1≤s.size∧((nxE (byteN s i) u=0∧DOK (nxT (byteN s i) u)∧fitsT t 12=true∧dS s (simT t) 0 (i + 1)=some (nxT (byteN s i) u)) ∨ (nxE (byteN s i) u ≠ 0∧nxT (byteN s i) u=wrN s t∧nxE (byteN s i) u=wrE s t))))∧((e ≠ 0 ∨ ¬ i < s.size)→u=wrN s t∧e=wrE s t):=by
    rintro i u e ⟨hi,h | h⟩
    · obtain ⟨rfl,hd,hf,h⟩:=h
      refine ⟨fun _ hlt=>⟨hd,by omega,?_⟩,fun hh=>?_⟩
      · have h2:=nx_dS h
        by_cases hc : 4000 < (byT (byteN s i) u).cnt
        · right
          rw [if_pos hc] at h2
          have h3:=dS_none h2 (s.size - (i + 1))
          rw [show i + 1 + (s.size - (i + 1))=s.size by omega] at h3
          simp [nxE,nxT,hc,wrN,wrE,wdT,wdE,hf,h3]
        · left
          rw [if_neg hc] at h2
          have:=DOK_by hd hc
          simp [nxE,nxT,hc,h2,hf,this]
      · have : i=s.size:=by omega
        subst this
        simp [wrN,wrE,wdT,wdE,hf,h]
    · obtain ⟨h1,h2,h3⟩:=h
      exact ⟨fun h=>absurd h h1,fun _=>⟨h2,h3⟩⟩
  have start : ∃ u,sN t=u∧(0≤s.size∧((sE t=0∧DOK u∧fitsT t 12=true∧dS s (simT t) 0 0=some u) ∨ (sE t ≠ 0∧u=wrN s t∧sE t=wrE s t))):=by
    refine ⟨_,rfl,Nat.zero_le _,?_⟩
    rcases Bool.eq_false_or_eq_true (fitsT t 12) with hR | hR
    · left
      simp [sE,sN,hR,dS,DOK_sim (hok hR) hc]
    · right
      simp [sE,sN,hR,wrN,wrE]
  obtain ⟨u0,hu0,hst⟩:=start
  rw [hu0] at h46
  generalize sE t=e0 at h46 hst
  clear hu0 hok hc
  generalize wrN s t=RN at key hst ⊢
  generalize wrE s t=RE at key hst ⊢
  generalize simT t=st at key hst
  generalize fitsT t 12=ft at key hst
  obtain ⟨k,a,b,c,d,mn,mx,subs⟩:=t
  have en : nodeA (T.node k a b c d mn mx subs)=.agg [.i k,.d (.val (.int .u64 a)),.d (.val (.int .u64 b)),.d (.val (.int .u64 c)),.d (.val (.int .u64 d)),.i mn,.i mx,.d (.sl (encL subs) subs.length)]:=rfl
  rw [en] at h46 ⊢
  obtain ⟨k2,a2,b2,c2,d2,mn2,mx2,subs2⟩:=u0
  have en2 : nodeA (T.node k2 a2 b2 c2 d2 mn2 mx2 subs2)=.agg [.i k2,.d (.val (.int .u64 a2)),.d (.val (.int .u64 b2)),.d (.val (.int .u64 c2)),.d (.val (.int .u64 d2)),.i mn2,.i mx2,.d (.sl (encL subs2) subs2.length)]:=rfl
  rw [en2] at h46
  refine b78 (by simp) (by simp) (w_init ?_)
  unfold x78
  repeat' (first|(apply r_mvV;rfl)|(apply r_mvT;rfl)|(apply r_callA (f:=46);rfl;rfl;exact h46)|(apply r_ldL (v:=.agg [.i k,.d (.val (.int .u64 a)),.d (.val (.int .u64 b)),.d (.val (.int .u64 c)),.d (.val (.int .u64 d)),.i mn,.i mx,.d (.sl (encL subs) subs.length)]);rfl;rfl;rfl)|(apply r_ext;rfl;rfl)|(apply r_alloc;((conv=>lhs;simp only [Nat.reduceAdd])<;>rfl);rfl)|(apply r_box;((conv=>lhs;simp only [Nat.reduceAdd])<;>rfl);rfl;rfl;rfl)|(apply r_stL;rfl;rfl;rfl;rfl;(first|rfl|(simp only [z_nil,z_add]<;>rfl));rfl;rfl)|(apply r_nilK)|(apply k_V;rfl)|(apply k_PL;rfl)|(apply k_nil)|(apply w_seq)|(apply w_ops;((conv=>lhs;simp only [Nat.reduceAdd])<;>rfl))|(apply e_thenN)|(apply w_block))
  apply w_loopI (ι:=Nat × T × Int) (S:=fun q=>⟨((((Fr.nil.put 1 (.d (.val (.string s)))).put 2 (.ptrL 1 0)).put 4 (.ptrL 2 0)).put 6 (.i q.2.2)).put 7 (.i (q.1 : Nat)),rowsOf [(1,(encN q.2.1).map AV.d),(2,zeroA zsN)],Frz.buts 100 [1,2],100⟩) (m:=fun q=>s.size - q.1) (I:=fun q=>q.1≤s.size∧((q.2.2=0∧DOK q.2.1∧ft=true∧dS s st 0 q.1=some q.2.1) ∨ (q.2.2 ≠ 0∧q.2.1=RN∧q.2.2=RE))) (i0:=(0,(T.node k2 a2 b2 c2 d2 mn2 mx2 subs2),e0))
  · exact hst
  · refine wkM [] [] rfl ?_ ?_ rfl ?_
    · intro p hp
      simp only [List.mem_cons,List.not_mem_nil,or_false] at hp
      rcases hp with rfl | rfl
      · exact ⟨by omega,.inr ⟨rfl,_,rfl,.data rfl⟩⟩
      · exact ⟨by omega,.inr ⟨rfl,_,rfl,.data rfl⟩⟩
    · intro q hq;simp only [List.mem_cons,List.not_mem_nil,or_false] at hq;rcases hq with rfl | rfl<;>rfl
    · repeat' (first|exact FWk.nil|(apply FWk.i;rfl;(first|rfl|omega|(simp;done)))|(apply FWk.ptr;rfl;rfl;rfl;omega;rfl)|(apply FWk.d;rfl;rfl))
  rintro ⟨i,u,e⟩ K hI hK
  dsimp only at hI hK ⊢
  obtain ⟨hgo,hend⟩:=key i u e hI
  have hbyte:=byteN_lt s i
  by_cases hc : e=0∧i < s.size
  · obtain ⟨rfl,hlt⟩:=hc
    obtain ⟨hd,hI'⟩:=hgo rfl hlt
    have g:=next128_good hbyte u hd
    have hK':=hK (i + 1,nxT (byteN s i) u,nxE (byteN s i) u)
    dsimp only at hK'
    generalize nxE (byteN s i) u=e' at g hI' hK'
    generalize nxT (byteN s i) u=u' at g hI' hK'
    clear hgo hend hI hK hst key
    obtain ⟨k3,a3,b3,c3,d3,mn3,mx3,subs3⟩:=u
    obtain ⟨k4,a4,b4,c4,d4,mn4,mx4,subs4⟩:=u'
    have e3 : nodeA (T.node k3 a3 b3 c3 d3 mn3 mx3 subs3)=.agg [.i k3,.d (.val (.int .u64 a3)),.d (.val (.int .u64 b3)),.d (.val (.int .u64 c3)),.d (.val (.int .u64 d3)),.i mn3,.i mx3,.d (.sl (encL subs3) subs3.length)]:=rfl
    have e4 : nodeA (T.node k4 a4 b4 c4 d4 mn4 mx4 subs4)=.agg [.i k4,.d (.val (.int .u64 a4)),.d (.val (.int .u64 b4)),.d (.val (.int .u64 c4)),.d (.val (.int .u64 d4)),.i mn4,.i mx4,.d (.sl (encL subs4) subs4.length)]:=rfl
    rw [e3,e4] at g
    repeat' (first|(apply r_mvV;rfl)|(apply r_mvT;rfl)|(apply r_ldL (v:=.agg [.i k3,.d (.val (.int .u64 a3)),.d (.val (.int .u64 b3)),.d (.val (.int .u64 c3)),.d (.val (.int .u64 d3)),.i mn3,.i mx3,.d (.sl (encL subs3) subs3.length)]);rfl;rfl;rfl)|(apply r_idxT;rfl;rfl;omega)|(apply r_callA (f:=128);rfl;rfl;exact g)|(apply r_eql;rfl;rfl;(first|(apply dT;omega)|(apply dF;omega)|rfl))|(apply r_lss;rfl;rfl;(first|(apply dT;omega)|(apply dF;omega)|rfl))|(apply r_add;rfl;rfl;rfl;omega)|(apply r_pickT;rfl)|(apply r_lenT;rfl)|(apply r_ext;rfl;rfl)|(apply r_gT;rfl)|(apply r_stL;rfl;rfl;rfl;rfl;(first|rfl|(simp only [z_nil,z_add]<;>rfl));rfl;rfl)|(apply r_nilK)|(apply k_V;rfl)|(apply k_PL;rfl)|(apply k_nil)|(apply w_seq)|(apply w_ops;((conv=>lhs;simp only [Nat.reduceAdd])<;>rfl))|(apply w_condT;rfl)|(apply e_thenN)|(apply w_block)|(apply e_blkN)|(apply w_skip))
    apply e_thenK
    apply hK'
    · exact hI'
    · omega
    · refine wkM [] [] rfl ?_ ?_ rfl ?_
      · intro p hp
        simp only [List.mem_cons,List.not_mem_nil,or_false] at hp
        rcases hp with rfl | rfl
        · exact ⟨by omega,.inr ⟨rfl,_,rfl,.data rfl⟩⟩
        · exact ⟨by omega,.inr ⟨rfl,_,rfl,.data rfl⟩⟩
      · intro q hq;simp only [List.mem_cons,List.not_mem_nil,or_false] at hq;rcases hq with rfl | rfl<;>rfl
      · repeat' (first|exact FWk.nil|(apply FWk.i;rfl;(first|rfl|omega|(simp;done)))|(apply FWk.ptr;rfl;rfl;rfl;omega;rfl)|(apply FWk.d;rfl;rfl))
  · obtain ⟨rfl,rfl⟩:=hend (by omega)
    clear hgo hend hI hK hst key
    obtain ⟨k3,a3,b3,c3,d3,mn3,mx3,subs3⟩:=u
    have e3 : nodeA (T.node k3 a3 b3 c3 d3 mn3 mx3 subs3)=.agg [.i k3,.d (.val (.int .u64 a3)),.d (.val (.int .u64 b3)),.d (.val (.int .u64 c3)),.d (.val (.int .u64 d3)),.i mn3,.i mx3,.d (.sl (encL subs3) subs3.length)]:=rfl
    rw [e3]
    by_cases hlt : i < s.size
    · have hne : ¬ e=0:=fun h=>hc ⟨h,hlt⟩
      repeat' (first|(apply r_mvV;rfl)|(apply r_ldL (v:=.agg [.i k3,.d (.val (.int .u64 a3)),.d (.val (.int .u64 b3)),.d (.val (.int .u64 c3)),.d (.val (.int .u64 d3)),.i mn3,.i mx3,.d (.sl (encL subs3) subs3.length)]);rfl;rfl;rfl)|(apply r_eql;rfl;rfl;(first|(apply dT;omega)|(apply dF;omega)|rfl))|(apply r_lss;rfl;rfl;(first|(apply dT;omega)|(apply dF;omega)|rfl))|(apply r_pickT;rfl)|(apply r_lenT;rfl)|(apply r_gT;rfl)|(apply r_stL;rfl;rfl;rfl;rfl;(first|rfl|(simp only [z_nil,z_add]<;>rfl));rfl;rfl)|(apply r_nilK)|(apply k_V;rfl)|(apply k_PL;rfl)|(apply k_nil)|(apply e_ret;rfl)|(apply w_seq)|(apply w_ops;((conv=>lhs;simp only [Nat.reduceAdd])<;>rfl))|(apply w_condF;rfl)|(apply e_thenN)|(apply e_thenX)|(apply e_blkE)|(apply w_exit)|(apply w_ret))
      exact .data _ rfl
    · repeat' (first|(apply r_mvV;rfl)|(apply r_ldL (v:=.agg [.i k3,.d (.val (.int .u64 a3)),.d (.val (.int .u64 b3)),.d (.val (.int .u64 c3)),.d (.val (.int .u64 d3)),.i mn3,.i mx3,.d (.sl (encL subs3) subs3.length)]);rfl;rfl;rfl)|(apply r_lss;rfl;rfl;(first|(apply dT;omega)|(apply dF;omega)|rfl))|(apply r_pickF;rfl)|(apply r_lenT;rfl)|(apply r_gF';rfl;rfl)|(apply r_stL;rfl;rfl;rfl;rfl;(first|rfl|(simp only [z_nil,z_add]<;>rfl));rfl;rfl)|(apply r_nilK)|(apply k_V;rfl)|(apply k_PL;rfl)|(apply k_nil)|(apply e_ret;rfl)|(apply w_seq)|(apply w_ops;((conv=>lhs;simp only [Nat.reduceAdd])<;>rfl))|(apply w_condF;rfl)|(apply e_thenN)|(apply e_thenX)|(apply e_blkE)|(apply w_exit)|(apply w_ret))
      exact .data _ rfl
end Go.Sv
namespace Go.Sv
open Go Go.Proofs
set_option maxRecDepth 100000
set_option maxHeartbeats 4000000
attribute [local irreducible] W E R KP thenK blockK retK Good xwp aRun
end Go.Sv
namespace Go.Sv
open Go
set_option linter.unusedVariables false
section
variable {P : Program} {Q : Cont} {fr : Fr} {C : Heap} {Z : Frz} {nx : Nat} {base n d : Nat} {l : List (Nat × XO)} {kp : Option (List Nat)} {x i y s : X}
theorem r_cat {u v w : ByteArray} (hx : x.ev fr=.d (.val (.string u))) (hy : y.ev fr=.d (.val (.string v))) (h : u++v=w) (hs : u.size + v.size≤9223372036854775807) (k : R P l base kp Q nx (fr.put d (.d (.val (.string w)))) C Z) : R P ((n,⟨some d,none,.arith .add x y⟩) :: l) base kp Q nx fr C Z:=by
  subst h
  refine r_p ?_ k
  simp only [xp,hx,hy,arith]
  rw [if_pos (by omega)]
  rfl
end
end Go.Sv
namespace Go.Sv
open Go Go.Proofs
set_option maxRecDepth 100000
set_option maxHeartbeats 4000000
attribute [local irreducible] W E R KP thenK blockK retK Good xwp aRun
end Go.Sv
namespace Go.Sv
open Go Go.Proofs
set_option maxRecDepth 100000
set_option maxHeartbeats 4000000
attribute [local irreducible] W E R KP thenK blockK retK Good xwp aRun
end Go.Sv
namespace Go.Sv
open Go Go.Proofs
def x48 : XC:=(.seq (.ops 2 [ (0,⟨some 1,none,.box (.t 0)⟩),(1,⟨some 2,none,.mv (.k (.d (.val (.int .i64 0))))⟩)] (some [1])) (.seq (.ops 1 [ (0,⟨some 3,none,.mv (.k (.d (.val (.int .i64 1))))⟩)] (some [1,3])) (.seq (.seq (.ops 1 [ (0,⟨some 4,none,.mv (.k (.d (.val (.int .i64 0))))⟩)] (some [1,3,4])) (.block 0 (.loop (.seq (.seq (.ops 5 [ (0,⟨some 5,none,.mv (.t 4)⟩),(1,⟨some 6,none,.fadd 7 (.t 1)⟩),(2,⟨some 7,none,.load none (.t 6)⟩),(3,⟨some 8,none,.lenS (.t 7)⟩),(4,⟨some 9,none,.arith .lss (.t 5) (.t 8)⟩)] (some [1,3,4,9])) (.cond (.t 9) .skip (.exit 0))) (.seq (.block 1 (.ops 9 [ (0,⟨some 12,none,.mv (.t 3)⟩),(1,⟨some 13,none,.fadd 7 (.t 1)⟩),(2,⟨some 14,none,.load none (.t 13)⟩),(3,⟨some 15,none,.mv (.t 4)⟩),(4,⟨some 16,none,.idxS 8 (.t 14) (.t 15)⟩),(5,⟨some 17,none,.load (some 8) (.t 16)⟩),(6,⟨some 18,none,.call 48 [(.t 17)] none false⟩),(7,⟨some 19,none,.arith .add (.t 12) (.t 18)⟩),(8,⟨some 3,none,.mv (.t 19)⟩)] (some [1,3,4]))) (.ops 3 [ (0,⟨some 10,none,.mv (.t 4)⟩),(1,⟨some 11,none,.arith .add (.t 10) (.k (.d (.val (.int .i64 1))))⟩),(2,⟨some 4,none,.mv (.t 11)⟩)] (some [1,3,4]))))))) (.seq (.ops 2 [ (0,⟨some 20,none,.mv (.t 3)⟩),(1,⟨some 2,none,.mv (.t 20)⟩)] (some [2])) .ret))))
def md48 : FuncId→Option Nat × Bool
  | _=>(none,false)
def od48 : Nat→List (List Nat) × List Nat × Option (List Nat)
  | 0=>([],[],some [1])
  | 1=>([],[],some [1,3])
  | 2=>([],[],some [1,3,4])
  | 3=>([],[],some [1,3,4,9])
  | 4=>([],[],some [1,3,4])
  | 5=>([],[],some [1,3,4])
  | 6=>([],[],some [2])
  | _=>([],[],none)
theorem b48 {ags : List AV} {row : Option (List DV)} {r : AV} {row' nw : Option (List DV)} (hal : ags.length≤21) (hrow : row'.isSome=true→row.isSome=true) (h : xwp Try.prog x48 (retK [.tmp 2] row.isSome r row' nw) (St.init ags row)) : Good Try.prog 48 ags row r row' nw :=
  good_of_body' (md:=md48) (od:=od48) Try.f48 (by kernel_rfl) (by kernel_rfl) (by kernel_rfl) (by kernel_rfl) (by kernel_rfl) hal hrow h

set_option maxRecDepth 100000
set_option maxHeartbeats 4000000
attribute [local irreducible] W E R KP thenK blockK retK Good xwp aRun
theorem size48_good : ∀ (n : Nat) (t : T),t.cnt≤n→n≤1000000→Good Try.prog 48 [nodeA t] none (.i (t.cnt : Nat)) none none:=by
  intro n
  induction n with
  | zero=>intro t ht;have:=cnt_pos t;omega
  | succ n ih =>
  intro t ht hc
  obtain ⟨k,a,b,c,d,mn,mx,subs⟩:=t
  have ih' : ∀ i (h : i < subs.length),Good Try.prog 48 [nodeA subs[i]] none (.i (subs[i].cnt : Nat)) none none:=by
    intro i h
    refine ih _ ?_ (by omega)
    have:=cntL_get subs i h
    simp only [T.cnt] at ht
    omega
  have hlen : subs.length≤1000000:=by
    have:=cntL_len subs
    simp only [T.cnt] at ht
    omega
  have e0 : nodeA (.node k a b c d mn mx subs)=.agg [.i k,.d (.val (.int .u64 a)),.d (.val (.int .u64 b)),.d (.val (.int .u64 c)),.d (.val (.int .u64 d)),.i mn,.i mx,.d (.sl (encL subs) subs.length)]:=rfl
  rw [e0]
  rw [T.cnt] at ht ⊢
  refine b48 (by simp) (by simp) (w_init ?_)
  unfold x48
  repeat' (first|(apply r_mvV;rfl)|(apply r_box;((conv=>lhs;simp only [Nat.reduceAdd])<;>rfl);rfl;rfl;rfl)|(apply r_nilK)|(apply k_V;rfl)|(apply k_PL;rfl)|(apply k_nil)|(apply w_seq)|(apply w_ops;((conv=>lhs;simp only [Nat.reduceAdd])<;>rfl))|(apply e_thenN)|(apply w_block))
  apply w_loopI (S:=fun i : Nat=>⟨((Fr.nil.put 1 (.ptrL 1 0)).put 3 (.i ((1 + cntL (subs.take i) : Nat) : Int))).put 4 (.i i),Heap.nil.put 1 [.i k,.d (.val (.int .u64 a)),.d (.val (.int .u64 b)),.d (.val (.int .u64 c)),.d (.val (.int .u64 d)),.i mn,.i mx,.d (.sl (encL subs) subs.length)],Frz.lo 100,100⟩) (m:=fun i=>subs.length - i) (I:=fun i=>i≤subs.length) (i0:=0)
  · exact Nat.zero_le _
  · refine wkR (by omega) rfl rfl ?_
    simp only [List.take_zero,cntL]
    repeat' (first|exact FWk.nil|(apply FWk.i;rfl;(first|rfl|omega|(simp;done)))|(apply FWk.ptr;rfl;rfl;rfl;omega;rfl))
  intro i K hi hK
  dsimp only
  rcases Nat.lt_or_ge i subs.length with hlt | hge
  · have hs:=NodeAt.sub hlt
    have hg:=ih' i hlt
    have hd:=cntL_take subs i hlt
    have h2:=cntL_take_le subs (i + 1)
    have hna : [nodeA subs[i]].all AV.nrm=true:=by rw [List.all_cons,nodeA_nrm];rfl
    repeat' (first|(apply r_mvV;rfl)|(apply r_faddL;rfl)|(apply r_l;apply ld_node';assumption;rfl)|(apply r_p;apply ix_sub;rfl;rfl;omega)|(apply r_callA (ags:=[nodeA subs[i]]);rfl;exact hna;exact hg)|(apply r_ldL;rfl;rfl;rfl)|(apply r_lss;rfl;rfl;(first|(apply dT;omega)|(apply dF;omega)|rfl))|(apply r_add;rfl;rfl;rfl;omega)|(apply r_lenD;rfl)|(apply r_nilK)|(apply k_V;rfl)|(apply k_PL;rfl)|(apply k_nil)|(apply w_seq)|(apply w_ops;((conv=>lhs;simp only [Nat.reduceAdd])<;>rfl))|(apply w_condT;rfl)|(apply e_thenN)|(apply w_block)|(apply e_blkN)|(apply w_skip))
    apply e_thenK
    apply hK (i + 1)
    · omega
    · omega
    · rw [hd]
      refine wkR (by omega) rfl rfl ?_
      repeat' (first|exact FWk.nil|(apply FWk.i;rfl;(first|rfl|omega|(simp;done)))|(apply FWk.ptr;rfl;rfl;rfl;omega;rfl))
  · have ei : i=subs.length:=by omega
    subst ei
    repeat' (first|(apply r_mvV;rfl)|(apply r_faddL;rfl)|(apply r_ldL;rfl;rfl;rfl)|(apply r_lss;rfl;rfl;(first|(apply dT;omega)|(apply dF;omega)|rfl))|(apply r_lenD;rfl)|(apply r_nilK)|(apply k_V;rfl)|(apply k_PL;rfl)|(apply k_nil)|(apply e_ret (vs:=[.d (.val _)]);rfl)|(apply w_seq)|(apply w_ops;((conv=>lhs;simp only [Nat.reduceAdd])<;>rfl))|(apply w_condF;rfl)|(apply e_thenN)|(apply e_thenX)|(apply e_blkE)|(apply w_exit)|(apply w_ret))
    exact retI (by rw [List.take_length])
end Go.Sv
namespace Go.Sv
open Go Go.Proofs
def x76 : XC:=(.seq (.ops 2 [ (0,⟨some 2,none,.box (.t 0)⟩),(1,⟨some 4,none,.mv (.k (.d (.val (.bool false))))⟩)] (some [1,2])) (.seq (.ops 18 [ (0,⟨some 5,none,.load (some 8) (.t 2)⟩),(1,⟨some 6,none,.call 45 [(.t 5)] none false⟩),(2,⟨some 7,none,.mv (.t 6)⟩),(3,⟨some 8,(some (7,true)),.mv (.t 1)⟩),(4,⟨some 9,(some (7,true)),.lenT (.t 8)⟩),(5,⟨some 10,(some (7,true)),.arith .leq (.t 9) (.k (.d (.val (.int .i64 16))))⟩),(6,⟨some 11,none,.pick (.t 7) (.t 10) (.k (.d (.val (.bool false))))⟩),(7,⟨some 12,none,.mv (.t 11)⟩),(8,⟨some 13,(some (12,true)),.load (some 8) (.t 2)⟩),(9,⟨some 14,(some (12,true)),.call 32 [(.t 13)] none false⟩),(10,⟨some 15,(some (12,true)),.un .not (.t 14)⟩),(11,⟨some 16,(some (12,true)),.mv (.t 15)⟩),(12,⟨some 17,(some (16,false)),.load (some 8) (.t 2)⟩),(13,⟨some 18,(some (16,false)),.call 48 [(.t 17)] none false⟩),(14,⟨some 19,(some (16,false)),.arith .leq (.t 18) (.k (.d (.val (.int .i64 60))))⟩),(15,⟨some 20,(some (12,true)),.pick (.t 16) (.k (.d (.val (.bool true)))) (.t 19)⟩),(16,⟨some 21,none,.pick (.t 12) (.t 20) (.k (.d (.val (.bool false))))⟩),(17,⟨some 4,none,.mv (.t 21)⟩)] (some [4])) .ret))
def md76 : FuncId→Option Nat × Bool
  | _=>(none,false)
def od76 : Nat→List (List Nat) × List Nat × Option (List Nat)
  | 0=>([],[],some [1,2])
  | 1=>([],[],some [4])
  | _=>([],[],none)
theorem b76 {ags : List AV} {row : Option (List DV)} {r : AV} {row' nw : Option (List DV)} (hal : ags.length≤22) (hrow : row'.isSome=true→row.isSome=true) (h : xwp Try.prog x76 (retK [.tmp 4] row.isSome r row' nw) (St.init ags row)) : Good Try.prog 76 ags row r row' nw :=
  good_of_body' (md:=md76) (od:=od76) Try.f76 (by kernel_rfl) (by kernel_rfl) (by kernel_rfl) (by kernel_rfl) (by kernel_rfl) hal hrow h

set_option maxRecDepth 100000
set_option maxHeartbeats 4000000
attribute [local irreducible] W E R KP thenK blockK retK Good xwp aRun
def few12 (s : ByteArray) (t : T) : Bool:=decide (sizeT t 601≤200) && (decide (s.size≤16) && (!rightT t || decide (t.cnt≤60)))
theorem few76_good (s : ByteArray) (hs : s.size≤9223372036854775807) (t : T) : Good Try.prog 76 [nodeA t,.d (.val (.string s))] none (.b (few12 s t)) none none:=by
  have h45:=few_good t
  by_cases hf : sizeT t 601≤200
  case neg =>
    have ev : few12 s t=false:=by simp [few12,hf]
    rw [ev]
    rw [show decide (sizeT t 601≤200)=false by simp [hf]] at h45
    clear ev hf
    obtain ⟨k,a,b,c,d,mn,mx,subs⟩:=t
    have e0 : nodeA (T.node k a b c d mn mx subs)=.agg [.i k,.d (.val (.int .u64 a)),.d (.val (.int .u64 b)),.d (.val (.int .u64 c)),.d (.val (.int .u64 d)),.i mn,.i mx,.d (.sl (encL subs) subs.length)]:=rfl
    rw [e0] at h45 ⊢
    refine b76 (by simp) (by simp) (w_init ?_)
    unfold x76
    repeat' (first|(apply r_mvV;rfl)|(apply r_callA;rfl;rfl;exact h45)|(apply r_ldL;rfl;rfl;rfl)|(apply r_pickF;rfl)|(apply r_gF';rfl;rfl)|(apply r_gN';rfl)|(apply r_box;((conv=>lhs;simp only [Nat.reduceAdd])<;>rfl);rfl;rfl;rfl)|(apply r_nilK)|(apply k_V;rfl)|(apply k_PL;rfl)|(apply k_nil)|(apply e_ret (vs:=[.d (.val _)]);rfl)|(apply w_seq)|(apply w_ops;((conv=>lhs;simp only [Nat.reduceAdd])<;>rfl))|(apply e_thenN)|(apply w_ret))
    exact retB rfl
  have hc:=few_cnt hf
  have h32:=right8_good t (by omega)
  have h48:=size48_good 1000000 t (by omega) (by omega)
  rw [show decide (sizeT t 601≤200)=true by simp [hf]] at h45
  by_cases h40 : s.size≤16
  case neg =>
    have ev : few12 s t=false:=by simp [few12,h40]
    rw [ev]
    clear ev hf hc h32 h48
    obtain ⟨k,a,b,c,d,mn,mx,subs⟩:=t
    have e0 : nodeA (T.node k a b c d mn mx subs)=.agg [.i k,.d (.val (.int .u64 a)),.d (.val (.int .u64 b)),.d (.val (.int .u64 c)),.d (.val (.int .u64 d)),.i mn,.i mx,.d (.sl (encL subs) subs.length)]:=rfl
    rw [e0] at h45 ⊢
    refine b76 (by simp) (by simp) (w_init ?_)
    unfold x76
    repeat' (first|(apply r_mvV;rfl)|(apply r_callA;rfl;rfl;exact h45)|(apply r_ldL;rfl;rfl;rfl)|(apply r_leq;rfl;rfl;(first|(apply dT;omega)|(apply dF;omega)|rfl))|(apply r_pickT;rfl)|(apply r_pickF;rfl)|(apply r_lenT;rfl)|(apply r_gT;rfl)|(apply r_gF';rfl;rfl)|(apply r_gN';rfl)|(apply r_box;((conv=>lhs;simp only [Nat.reduceAdd])<;>rfl);rfl;rfl;rfl)|(apply r_nilK)|(apply k_V;rfl)|(apply k_PL;rfl)|(apply k_nil)|(apply e_ret (vs:=[.d (.val _)]);rfl)|(apply w_seq)|(apply w_ops;((conv=>lhs;simp only [Nat.reduceAdd])<;>rfl))|(apply e_thenN)|(apply w_ret))
    exact retB rfl
  by_cases hr : rightT t=true
  case neg =>
    have hr : rightT t=false:=by simpa using hr
    have ev : few12 s t=true:=by simp [few12,hf,h40,hr]
    rw [ev]
    rw [hr] at h32
    clear ev hf hc h48 hr
    obtain ⟨k,a,b,c,d,mn,mx,subs⟩:=t
    have e0 : nodeA (T.node k a b c d mn mx subs)=.agg [.i k,.d (.val (.int .u64 a)),.d (.val (.int .u64 b)),.d (.val (.int .u64 c)),.d (.val (.int .u64 d)),.i mn,.i mx,.d (.sl (encL subs) subs.length)]:=rfl
    rw [e0] at h45 h32 ⊢
    refine b76 (by simp) (by simp) (w_init ?_)
    unfold x76
    repeat' (first|(apply r_mvV;rfl)|(apply r_callA (f:=45);rfl;rfl;exact h45)|(apply r_callA (f:=32);rfl;rfl;exact h32)|(apply r_ldL;rfl;rfl;rfl)|(apply r_leq;rfl;rfl;(first|(apply dT;omega)|(apply dF;omega)|rfl))|(apply r_not;rfl;rfl)|(apply r_pickT;rfl)|(apply r_lenT;rfl)|(apply r_gT;rfl)|(apply r_gF';rfl;rfl)|(apply r_box;((conv=>lhs;simp only [Nat.reduceAdd])<;>rfl);rfl;rfl;rfl)|(apply r_nilK)|(apply k_V;rfl)|(apply k_PL;rfl)|(apply k_nil)|(apply e_ret (vs:=[.d (.val _)]);rfl)|(apply w_seq)|(apply w_ops;((conv=>lhs;simp only [Nat.reduceAdd])<;>rfl))|(apply e_thenN)|(apply w_ret))
    exact retB rfl
  have ev : few12 s t=decide (t.cnt≤60):=by simp [few12,hf,h40,hr]
  rw [ev]
  rw [hr] at h32
  clear ev hf hr
  generalize t.cnt=ct at h48 hc ⊢
  obtain ⟨k,a,b,c,d,mn,mx,subs⟩:=t
  have e0 : nodeA (T.node k a b c d mn mx subs)=.agg [.i k,.d (.val (.int .u64 a)),.d (.val (.int .u64 b)),.d (.val (.int .u64 c)),.d (.val (.int .u64 d)),.i mn,.i mx,.d (.sl (encL subs) subs.length)]:=rfl
  rw [e0] at h45 h32 h48 ⊢
  by_cases hv : ct≤60
  · refine b76 (by simp) (by simp) (w_init ?_)
    unfold x76
    repeat' (first|(apply r_mvV;rfl)|(apply r_callA (f:=45);rfl;rfl;exact h45)|(apply r_callA (f:=32);rfl;rfl;exact h32)|(apply r_callA (f:=48);rfl;rfl;exact h48)|(apply r_ldL;rfl;rfl;rfl)|(apply r_leq;rfl;rfl;(first|(apply dT;omega)|(apply dF;omega)|rfl))|(apply r_not;rfl;rfl)|(apply r_pickT;rfl)|(apply r_pickF;rfl)|(apply r_lenT;rfl)|(apply r_gT;rfl)|(apply r_box;((conv=>lhs;simp only [Nat.reduceAdd])<;>rfl);rfl;rfl;rfl)|(apply r_nilK)|(apply k_V;rfl)|(apply k_PL;rfl)|(apply k_nil)|(apply e_ret (vs:=[.d (.val _)]);rfl)|(apply w_seq)|(apply w_ops;((conv=>lhs;simp only [Nat.reduceAdd])<;>rfl))|(apply e_thenN)|(apply w_ret))
    exact retB (by simp [hv])
  · refine b76 (by simp) (by simp) (w_init ?_)
    unfold x76
    repeat' (first|(apply r_mvV;rfl)|(apply r_callA (f:=45);rfl;rfl;exact h45)|(apply r_callA (f:=32);rfl;rfl;exact h32)|(apply r_callA (f:=48);rfl;rfl;exact h48)|(apply r_ldL;rfl;rfl;rfl)|(apply r_leq;rfl;rfl;(first|(apply dT;omega)|(apply dF;omega)|rfl))|(apply r_not;rfl;rfl)|(apply r_pickT;rfl)|(apply r_pickF;rfl)|(apply r_lenT;rfl)|(apply r_gT;rfl)|(apply r_box;((conv=>lhs;simp only [Nat.reduceAdd])<;>rfl);rfl;rfl;rfl)|(apply r_nilK)|(apply k_V;rfl)|(apply k_PL;rfl)|(apply k_nil)|(apply e_ret (vs:=[.d (.val _)]);rfl)|(apply w_seq)|(apply w_ops;((conv=>lhs;simp only [Nat.reduceAdd])<;>rfl))|(apply e_thenN)|(apply w_ret))
    exact retB (by simp [hv])
end Go.Sv
namespace Go.Sv
open Go Go.Proofs
theorem few12_of {s : ByteArray} {t : T} (h : few12 s t=true) : t.cnt≤200∧s.size≤16:=by
  simp only [few12,Bool.and_eq_true,decide_eq_true_eq] at h
  exact ⟨few_cnt h.1,h.2.1⟩
theorem cnt_zT : zT.cnt=1:=by simp [zT,T.cnt,cntL]
theorem wdT_cnt {s : ByteArray} {t : T} (h : DOK t) : (wdT s t).cnt≤4000:=by
  unfold wdT
  cases hq : dS s t 0 s.size with
  | none=>rw [Option.getD_none,cnt_zT];omega
  | some u=>rw [Option.getD_some];exact (dS_ok h _ _ hq).1.2.2
set_option maxRecDepth 100000
set_option maxHeartbeats 4000000
attribute [local irreducible] W E R KP thenK blockK retK Good xwp aRun
end Go.Sv
namespace Go.Sv
open Go Go.Proofs
def x26 : XC:=(.seq (.ops 2 [ (0,⟨some 3,none,.box (.t 0)⟩),(1,⟨some 6,none,.mv (.k (.d (.val (.bool false))))⟩)] (some [1,2,3])) (.seq (.seq (.ops 15 [ (0,⟨some 13,none,.call 75 [] none false⟩),(1,⟨some 14,none,.un .not (.t 13)⟩),(2,⟨some 15,none,.mv (.t 14)⟩),(3,⟨some 16,(some (15,false)),.load (some 8) (.t 3)⟩),(4,⟨some 17,(some (15,false)),.mv (.t 1)⟩),(5,⟨some 18,(some (15,false)),.mv (.t 2)⟩),(6,⟨some 19,(some (15,false)),.arith .add (.t 17) (.t 18)⟩),(7,⟨some 20,(some (15,false)),.call 76 [(.t 16),(.t 19)] none false⟩),(8,⟨some 21,(some (15,false)),.un .not (.t 20)⟩),(9,⟨some 22,none,.pick (.t 15) (.k (.d (.val (.bool true)))) (.t 21)⟩),(10,⟨some 23,none,.mv (.t 22)⟩),(11,⟨some 24,(some (23,false)),.load (some 8) (.t 3)⟩),(12,⟨some 25,(some (23,false)),.call 32 [(.t 24)] none false⟩),(13,⟨some 26,(some (23,false)),.un .not (.t 25)⟩),(14,⟨some 27,none,.pick (.t 23) (.k (.d (.val (.bool true)))) (.t 26)⟩)] (some [1,2,3,27])) (.cond (.t 27) (.seq (.ops 2 [ (0,⟨some 28,none,.call 75 [] none false⟩),(1,⟨some 6,none,.mv (.t 28)⟩)] (some [6])) .ret) .skip)) (.seq (.ops 9 [ (0,⟨some 30,none,.load (some 8) (.t 3)⟩),(1,⟨some 31,none,.mv (.t 1)⟩),(2,⟨some 32,none,.call 78 [(.t 30),(.t 31)] none false⟩),(3,⟨some 29,none,.mv (.t 32)⟩),(4,⟨some 33,none,.ext (.t 29) 0⟩),(5,⟨some 34,none,.ext (.t 29) 1⟩),(6,⟨some 7,none,.alloc [(.int .i64 0),(.int .u64 0),(.int .u64 0),(.int .u64 0),(.int .u64 0),(.int .i64 0),(.int .i64 0),(.slice none 0 0)]⟩),(7,⟨none,none,.store 8 (.t 7) (.t 33)⟩),(8,⟨some 8,none,.mv (.t 34)⟩)] (some [1,2,3,7,8])) (.seq (.seq (.ops 14 [ (0,⟨some 35,none,.mv (.t 8)⟩),(1,⟨some 36,none,.arith .neq (.t 35) (.k (.d (.val (.int .i64 0))))⟩),(2,⟨some 37,none,.mv (.t 36)⟩),(3,⟨some 38,(some (37,false)),.load (some 8) (.t 7)⟩),(4,⟨some 39,(some (37,false)),.call 32 [(.t 38)] none false⟩),(5,⟨some 40,(some (37,false)),.un .not (.t 39)⟩),(6,⟨some 41,none,.pick (.t 37) (.k (.d (.val (.bool true)))) (.t 40)⟩),(7,⟨some 42,none,.mv (.t 41)⟩),(8,⟨some 43,(some (42,false)),.load (some 8) (.t 7)⟩),(9,⟨some 44,(some (42,false)),.call 40 [(.t 43)] none false⟩),(10,⟨some 45,(some (42,false)),.load (some 8) (.t 7)⟩),(11,⟨some 46,(some (42,false)),.call 47 [(.t 44),(.t 45)] none false⟩),(12,⟨some 47,(some (42,false)),.un .not (.t 46)⟩),(13,⟨some 48,none,.pick (.t 42) (.k (.d (.val (.bool true)))) (.t 47)⟩)] (some [1,2,3,7,48])) (.cond (.t 48) (.seq (.ops 1 [ (0,⟨some 6,none,.mv (.k (.d (.val (.bool true))))⟩)] (some [6])) .ret) .skip)) (.seq (.ops 9 [ (0,⟨some 50,none,.load (some 8) (.t 7)⟩),(1,⟨some 51,none,.mv (.t 2)⟩),(2,⟨some 52,none,.call 78 [(.t 50),(.t 51)] none false⟩),(3,⟨some 49,none,.mv (.t 52)⟩),(4,⟨some 53,none,.ext (.t 49) 0⟩),(5,⟨some 54,none,.ext (.t 49) 1⟩),(6,⟨some 9,none,.alloc [(.int .i64 0),(.int .u64 0),(.int .u64 0),(.int .u64 0),(.int .u64 0),(.int .i64 0),(.int .i64 0),(.slice none 0 0)]⟩),(7,⟨none,none,.store 8 (.t 9) (.t 53)⟩),(8,⟨some 10,none,.mv (.t 54)⟩)] (some [1,2,3,9,10])) (.seq (.ops 11 [ (0,⟨some 56,none,.load (some 8) (.t 3)⟩),(1,⟨some 57,none,.mv (.t 1)⟩),(2,⟨some 58,none,.mv (.t 2)⟩),(3,⟨some 59,none,.arith .add (.t 57) (.t 58)⟩),(4,⟨some 60,none,.call 78 [(.t 56),(.t 59)] none false⟩),(5,⟨some 55,none,.mv (.t 60)⟩),(6,⟨some 61,none,.ext (.t 55) 0⟩),(7,⟨some 62,none,.ext (.t 55) 1⟩),(8,⟨some 11,none,.alloc [(.int .i64 0),(.int .u64 0),(.int .u64 0),(.int .u64 0),(.int .u64 0),(.int .i64 0),(.int .i64 0),(.slice none 0 0)]⟩),(9,⟨none,none,.store 8 (.t 11) (.t 61)⟩),(10,⟨some 12,none,.mv (.t 62)⟩)] (some [9,10,11,12])) (.seq (.ops 9 [ (0,⟨some 63,none,.mv (.t 10)⟩),(1,⟨some 64,none,.mv (.t 12)⟩),(2,⟨some 65,none,.arith .eql (.t 63) (.t 64)⟩),(3,⟨some 66,none,.mv (.t 65)⟩),(4,⟨some 67,(some (66,true)),.load (some 8) (.t 9)⟩),(5,⟨some 68,(some (66,true)),.load (some 8) (.t 11)⟩),(6,⟨some 69,(some (66,true)),.call 47 [(.t 67),(.t 68)] none false⟩),(7,⟨some 70,none,.pick (.t 66) (.t 69) (.k (.d (.val (.bool false))))⟩),(8,⟨some 6,none,.mv (.t 70)⟩)] (some [6])) .ret)))))))
def md26 : FuncId→Option Nat × Bool
  | _=>(none,false)
def od26 : Nat→List (List Nat) × List Nat × Option (List Nat)
  | 0=>([],[],some [1,2,3])
  | 1=>([],[],some [1,2,3,27])
  | 2=>([],[],some [6])
  | 3=>([],[],some [1,2,3,7,8])
  | 4=>([[],[0],[0,1],[0,1,2],[0,1,2,3],[0,1,2,3,4],[0,1,2,3,4,5],[0,1,2,3,4,5,6],[0,1,2,3,4,5,6,7],[0,1,2,3,4,5,6,7,8],[0,1,2,3,4,5,6,7],[0,1,2,3,4,5,6,7,8,9,10],[0,1,2,3,4,5,6,7,8,9,10,11],[0,1,2,3,4,5,6,7,8,9,10,11,12]],[0,1,2,3,4,5,6,7,8,9,10,11,12,13],some [1,2,3,7,48])
  | 5=>([],[],some [6])
  | 6=>([],[],some [1,2,3,9,10])
  | 7=>([],[],some [9,10,11,12])
  | 8=>([],[],some [6])
  | _=>([],[],none)
theorem b26 {ags : List AV} {row : Option (List DV)} {r : AV} {row' nw : Option (List DV)} (hal : ags.length≤71) (hrow : row'.isSome=true→row.isSome=true) (h : xwp Try.prog x26 (retK [.tmp 6] row.isSome r row' nw) (St.init ags row)) : Good Try.prog 26 ags row r row' nw :=
  good_of_body' (md:=md26) (od:=od26) Try.f26 (by kernel_rfl) (by kernel_rfl) (by kernel_rfl) (by kernel_rfl) (by kernel_rfl) hal hrow h

theorem right_ok {t : T} (h : rightT t=true) : fitsT t 12=true:=by rw [← right_fits];exact h
set_option maxRecDepth 100000
set_option maxHeartbeats 4000000
attribute [local irreducible] W E R KP thenK blockK retK Good xwp aRun
theorem law26 (t : T) (s r : ByteArray) (ht : inT t) (hs : s.size≤140737488355328) (hr0 : r.size≤140737488355328) : Good Try.prog 26 [nodeA t,.d (.val (.string s)),.d (.val (.string r))] none (.b true) none none:=by
  have haw:=awake75_good
  have hsz0 : (s++r).size=s.size + r.size:=ByteArray.size_append
  have h76:=few76_good (s++r) (by omega) t
  by_cases hf : few12 (s++r) t=true
  case neg =>
    have hf : few12 (s++r) t=false:=by simpa using hf
    rw [hf] at h76
    clear ht hf hsz0
    generalize hsr : s++r=sr at h76
    obtain ⟨k,a,b,c,d,mn,mx,subs⟩:=t
    have e0 : nodeA (T.node k a b c d mn mx subs)=.agg [.i k,.d (.val (.int .u64 a)),.d (.val (.int .u64 b)),.d (.val (.int .u64 c)),.d (.val (.int .u64 d)),.i mn,.i mx,.d (.sl (encL subs) subs.length)]:=rfl
    rw [e0] at h76 ⊢
    refine b26 (by simp) (by simp) (w_init ?_)
    unfold x26
    repeat' (first|(apply r_mvV;rfl)|(apply r_cat;rfl;rfl;exact hsr;omega)|(apply r_ldL (v:=.agg [.i k,.d (.val (.int .u64 a)),.d (.val (.int .u64 b)),.d (.val (.int .u64 c)),.d (.val (.int .u64 d)),.i mn,.i mx,.d (.sl (encL subs) subs.length)]);rfl;rfl;rfl)|(apply r_callA (f:=75) (ags:=[]);rfl;rfl;exact haw)|(apply r_callA (f:=76);rfl;rfl;exact h76)|(apply r_not;rfl;rfl)|(apply r_pickT;rfl)|(apply r_pickF;rfl)|(apply r_gT;rfl)|(apply r_gF';rfl;rfl)|(apply r_box;((conv=>lhs;simp only [Nat.reduceAdd])<;>rfl);rfl;rfl;rfl)|(apply r_nilK)|(apply k_V;rfl)|(apply k_PL;rfl)|(apply k_nil)|(apply e_ret (vs:=[.d (.val _)]);rfl)|(apply w_seq)|(apply w_ops;((conv=>lhs;simp only [Nat.reduceAdd])<;>rfl))|(apply w_condT;rfl)|(apply e_thenN)|(apply e_thenR)|(apply w_ret))
    exact retB rfl
  obtain ⟨hc,hsz⟩:=few12_of hf
  rw [hf] at h76
  have hokt : fitsT t 12=true→okT t:=fun h=>ok_of_right ht (by rw [right_fits];exact h)
  have h78:=Word78_good s (by omega) t (by omega) hokt
  have h32:=right8_good t (by omega)
  by_cases hr : rightT t=true
  case neg =>
    have hr : rightT t=false:=by simpa using hr
    rw [hr] at h32
    clear ht hf hsz hc h78 hokt hr
    obtain ⟨k,a,b,c,d,mn,mx,subs⟩:=t
    have e0 : nodeA (T.node k a b c d mn mx subs)=.agg [.i k,.d (.val (.int .u64 a)),.d (.val (.int .u64 b)),.d (.val (.int .u64 c)),.d (.val (.int .u64 d)),.i mn,.i mx,.d (.sl (encL subs) subs.length)]:=rfl
    rw [e0] at h76 h32 ⊢
    refine b26 (by simp) (by simp) (w_init ?_)
    unfold x26
    repeat' (first|(apply r_mvV;rfl)|(apply r_cat (w:=s++r);rfl;rfl;rfl;omega)|(apply r_ldL (v:=.agg [.i k,.d (.val (.int .u64 a)),.d (.val (.int .u64 b)),.d (.val (.int .u64 c)),.d (.val (.int .u64 d)),.i mn,.i mx,.d (.sl (encL subs) subs.length)]);rfl;rfl;rfl)|(apply r_callA (f:=75) (ags:=[]);rfl;rfl;exact haw)|(apply r_callA (f:=76);rfl;rfl;exact h76)|(apply r_callA (f:=32) (ags:=[.agg [.i k,.d (.val (.int .u64 a)),.d (.val (.int .u64 b)),.d (.val (.int .u64 c)),.d (.val (.int .u64 d)),.i mn,.i mx,.d (.sl (encL subs) subs.length)]]);rfl;rfl;exact h32)|(apply r_not;rfl;rfl)|(apply r_pickF;rfl)|(apply r_gT;rfl)|(apply r_box;((conv=>lhs;simp only [Nat.reduceAdd])<;>rfl);rfl;rfl;rfl)|(apply r_nilK)|(apply k_V;rfl)|(apply k_PL;rfl)|(apply k_nil)|(apply e_ret (vs:=[.d (.val _)]);rfl)|(apply w_seq)|(apply w_ops;((conv=>lhs;simp only [Nat.reduceAdd])<;>rfl))|(apply w_condT;rfl)|(apply e_thenN)|(apply e_thenR)|(apply w_ret))
    exact retB rfl
  have hfi:=right_ok hr
  have hok:=hokt hfi
  rw [hr] at h32
  have hd:=DOK_sim hok (by omega)
  have e3 : wrN s t=wdT s (simT t):=by simp [wrN,hfi]
  have e4 : wrE s t=if (dS s (simT t) 0 s.size).isSome=true then 0 else 11:=by simp [wrE,wdE,hfi]
  rw [e3,e4] at h78
  have h78c:=Word78_good (s++r) (by omega) t (by omega) hokt
  have e5 : wrN (s++r) t=((dS s (simT t) 0 s.size).bind fun u=>dS r u 0 r.size).getD zT:=by unfold wrN wdT;rw [if_pos hfi,dS_two]
  have e6 : wrE (s++r) t=if ((dS s (simT t) 0 s.size).bind fun u=>dS r u 0 r.size).isSome=true then 0 else 11:=by unfold wrE wdE;rw [if_pos hfi,dS_two]
  rw [e5,e6] at h78c
  cases hq : dS s (simT t) 0 s.size with
  | none =>
    have ez : nodeA zT=.agg [.i 0,.d (.val (.int .u64 0)),.d (.val (.int .u64 0)),.d (.val (.int .u64 0)),.d (.val (.int .u64 0)),.i 0,.i 0,.d (.sl [] 0)]:=rfl
    have e7 : wdT s (simT t)=zT:=by simp [wdT,hq]
    rw [hq,e7,ez] at h78
    have h78 : Good Try.prog 78 [nodeA t,.d (.val (.string s))] none (.tup [.agg [.i 0,.d (.val (.int .u64 0)),.d (.val (.int .u64 0)),.d (.val (.int .u64 0)),.d (.val (.int .u64 0)),.i 0,.i 0,.d (.sl [] 0)],.i 11]) none none:=h78
    clear h78c hq e7 e3 e4 e5 e6 hd hok hfi hr hokt ht hf hc
    obtain ⟨k,a,b,c,d,mn,mx,subs⟩:=t
    have e0 : nodeA (T.node k a b c d mn mx subs)=.agg [.i k,.d (.val (.int .u64 a)),.d (.val (.int .u64 b)),.d (.val (.int .u64 c)),.d (.val (.int .u64 d)),.i mn,.i mx,.d (.sl (encL subs) subs.length)]:=rfl
    rw [e0] at h76 h32 h78 ⊢
    refine b26 (by simp) (by simp) (w_init ?_)
    unfold x26
    repeat' (first|(apply r_mvV;rfl)|(apply r_mvT;rfl)|(apply r_cat (w:=s++r);rfl;rfl;rfl;omega)|(apply r_ldL (v:=.agg [.i k,.d (.val (.int .u64 a)),.d (.val (.int .u64 b)),.d (.val (.int .u64 c)),.d (.val (.int .u64 d)),.i mn,.i mx,.d (.sl (encL subs) subs.length)]);rfl;rfl;rfl)|(apply r_callA (f:=75) (ags:=[]);rfl;rfl;exact haw)|(apply r_callA (f:=76);rfl;rfl;exact h76)|(apply r_callA (f:=32) (ags:=[.agg [.i k,.d (.val (.int .u64 a)),.d (.val (.int .u64 b)),.d (.val (.int .u64 c)),.d (.val (.int .u64 d)),.i mn,.i mx,.d (.sl (encL subs) subs.length)]]);rfl;rfl;exact h32)|(apply r_callA (f:=78) (ags:=[.agg [.i k,.d (.val (.int .u64 a)),.d (.val (.int .u64 b)),.d (.val (.int .u64 c)),.d (.val (.int .u64 d)),.i mn,.i mx,.d (.sl (encL subs) subs.length)],.d (.val (.string s))]);rfl;rfl;exact h78)|(apply r_neq;rfl;rfl;(first|(apply dT;omega)|(apply dF;omega)|rfl))|(apply r_not;rfl;rfl)|(apply r_pickT;rfl)|(apply r_pickF;rfl)|(apply r_ext;rfl;rfl)|(apply r_gT;rfl)|(apply r_gF';rfl;rfl)|(apply r_alloc;((conv=>lhs;simp only [Nat.reduceAdd])<;>rfl);rfl)|(apply r_box;((conv=>lhs;simp only [Nat.reduceAdd])<;>rfl);rfl;rfl;rfl)|(apply r_stL;rfl;rfl;rfl;rfl;(first|rfl|(simp only [z_nil,z_add]<;>rfl));rfl;rfl)|(apply r_nilK)|(apply k_V;rfl)|(apply k_PL;rfl)|(apply k_nil)|(apply e_ret (vs:=[.d (.val _)]);rfl)|(apply w_seq)|(apply w_ops;((conv=>lhs;simp only [Nat.reduceAdd])<;>rfl))|(apply w_condT;rfl)|(apply w_condF;rfl)|(apply e_thenN)|(apply e_thenR)|(apply w_ret)|(apply w_skip))
    exact retB rfl
  | some u =>
  have e7 : wdT s (simT t)=u:=by simp [wdT,hq]
  rw [hq,e7] at h78
  have h78 : Good Try.prog 78 [nodeA t,.d (.val (.string s))] none (.tup [nodeA u,.i 0]) none none:=h78
  rw [hq,Option.bind_some] at h78c
  have hdu:=(dS_ok hd _ _ hq).1
  have h32b:=right8_good u (by have:=hdu.2.2;omega)
  clear e3 e4 e5 e6 e7 hq hd hok hfi hr hokt ht hf hc
  by_cases hrb : rightT u=true
  case neg =>
    have hrb : rightT u=false:=by simpa using hrb
    rw [hrb] at h32b
    clear hrb hdu h78c
    obtain ⟨k,a,b,c,d,mn,mx,subs⟩:=t
    have e0 : nodeA (T.node k a b c d mn mx subs)=.agg [.i k,.d (.val (.int .u64 a)),.d (.val (.int .u64 b)),.d (.val (.int .u64 c)),.d (.val (.int .u64 d)),.i mn,.i mx,.d (.sl (encL subs) subs.length)]:=rfl
    obtain ⟨k2,a2,b2,c2,d2,mn2,mx2,subs2⟩:=u
    have e2 : nodeA (T.node k2 a2 b2 c2 d2 mn2 mx2 subs2)=.agg [.i k2,.d (.val (.int .u64 a2)),.d (.val (.int .u64 b2)),.d (.val (.int .u64 c2)),.d (.val (.int .u64 d2)),.i mn2,.i mx2,.d (.sl (encL subs2) subs2.length)]:=rfl
    rw [e0] at h76 h32 h78 ⊢
    rw [e2] at h78 h32b
    refine b26 (by simp) (by simp) (w_init ?_)
    unfold x26
    repeat' (first|(apply r_mvV;rfl)|(apply r_mvT;rfl)|(apply r_cat (w:=s++r);rfl;rfl;rfl;omega)|(apply r_callA (f:=75) (ags:=[]);rfl;rfl;exact haw)|(apply r_callA (f:=76);rfl;rfl;exact h76)|(apply r_callA (f:=32) (ags:=[.agg [.i k,.d (.val (.int .u64 a)),.d (.val (.int .u64 b)),.d (.val (.int .u64 c)),.d (.val (.int .u64 d)),.i mn,.i mx,.d (.sl (encL subs) subs.length)]]);rfl;rfl;exact h32)|(apply r_callA (f:=32) (ags:=[.agg [.i k2,.d (.val (.int .u64 a2)),.d (.val (.int .u64 b2)),.d (.val (.int .u64 c2)),.d (.val (.int .u64 d2)),.i mn2,.i mx2,.d (.sl (encL subs2) subs2.length)]]);rfl;rfl;exact h32b)|(apply r_callA (f:=78) (ags:=[.agg [.i k,.d (.val (.int .u64 a)),.d (.val (.int .u64 b)),.d (.val (.int .u64 c)),.d (.val (.int .u64 d)),.i mn,.i mx,.d (.sl (encL subs) subs.length)],.d (.val (.string s))]);rfl;rfl;exact h78)|(apply r_ldL (v:=.agg [.i k,.d (.val (.int .u64 a)),.d (.val (.int .u64 b)),.d (.val (.int .u64 c)),.d (.val (.int .u64 d)),.i mn,.i mx,.d (.sl (encL subs) subs.length)]);rfl;rfl;rfl)|(apply r_ldL (v:=.agg [.i k2,.d (.val (.int .u64 a2)),.d (.val (.int .u64 b2)),.d (.val (.int .u64 c2)),.d (.val (.int .u64 d2)),.i mn2,.i mx2,.d (.sl (encL subs2) subs2.length)]);rfl;rfl;rfl)|(apply r_neq;rfl;rfl;(first|(apply dT;omega)|(apply dF;omega)|rfl))|(apply r_not;rfl;rfl)|(apply r_pickT;rfl)|(apply r_pickF;rfl)|(apply r_ext;rfl;rfl)|(apply r_gT;rfl)|(apply r_gF';rfl;rfl)|(apply r_alloc;((conv=>lhs;simp only [Nat.reduceAdd])<;>rfl);rfl)|(apply r_box;((conv=>lhs;simp only [Nat.reduceAdd])<;>rfl);rfl;rfl;rfl)|(apply r_stL;rfl;rfl;rfl;rfl;(first|rfl|(simp only [z_nil,z_add]<;>rfl));rfl;rfl)|(apply r_nilK)|(apply k_V;rfl)|(apply k_PL;rfl)|(apply k_nil)|(apply e_ret (vs:=[.d (.val _)]);rfl)|(apply w_seq)|(apply w_ops;((conv=>lhs;simp only [Nat.reduceAdd])<;>rfl))|(apply w_condT;rfl)|(apply w_condF;rfl)|(apply e_thenN)|(apply e_thenR)|(apply w_ret)|(apply w_skip))
    exact retB rfl
  rw [hrb] at h32b
  have hfb:=right_ok hrb
  have h40:=simple40_good 4000 u hdu.2.2 (by omega) hdu.1
  have h47:=same47g_good 100000000 (simT u) u (by have:=simT_cnt u hdu.1;have:=hdu.2.2;omega) (Nat.le_refl _)
  by_cases hsm : sameT (simT u) u=true
  case neg =>
    have hsm : sameT (simT u) u=false:=by simpa using hsm
    rw [hsm] at h47
    clear hrb hdu h78c hsm hfb
    generalize simT u=v at h40 h47
    obtain ⟨k,a,b,c,d,mn,mx,subs⟩:=t
    have e0 : nodeA (T.node k a b c d mn mx subs)=.agg [.i k,.d (.val (.int .u64 a)),.d (.val (.int .u64 b)),.d (.val (.int .u64 c)),.d (.val (.int .u64 d)),.i mn,.i mx,.d (.sl (encL subs) subs.length)]:=rfl
    obtain ⟨k2,a2,b2,c2,d2,mn2,mx2,subs2⟩:=u
    obtain ⟨k3,a3,b3,c3,d3,mn3,mx3,subs3⟩:=v
    have e2 : nodeA (T.node k2 a2 b2 c2 d2 mn2 mx2 subs2)=.agg [.i k2,.d (.val (.int .u64 a2)),.d (.val (.int .u64 b2)),.d (.val (.int .u64 c2)),.d (.val (.int .u64 d2)),.i mn2,.i mx2,.d (.sl (encL subs2) subs2.length)]:=rfl
    have e3 : nodeA (T.node k3 a3 b3 c3 d3 mn3 mx3 subs3)=.agg [.i k3,.d (.val (.int .u64 a3)),.d (.val (.int .u64 b3)),.d (.val (.int .u64 c3)),.d (.val (.int .u64 d3)),.i mn3,.i mx3,.d (.sl (encL subs3) subs3.length)]:=rfl
    rw [e0] at h76 h32 h78 ⊢
    rw [e2] at h78 h32b h40 h47
    rw [e3] at h40 h47
    refine b26 (by simp) (by simp) (w_init ?_)
    unfold x26
    repeat' (first|(apply r_mvV;rfl)|(apply r_mvT;rfl)|(apply r_cat (w:=s++r);rfl;rfl;rfl;omega)|(apply r_callA (f:=75) (ags:=[]);rfl;rfl;exact haw)|(apply r_callA (f:=76);rfl;rfl;exact h76)|(apply r_callA (f:=32) (ags:=[.agg [.i k,.d (.val (.int .u64 a)),.d (.val (.int .u64 b)),.d (.val (.int .u64 c)),.d (.val (.int .u64 d)),.i mn,.i mx,.d (.sl (encL subs) subs.length)]]);rfl;rfl;exact h32)|(apply r_callA (f:=32) (ags:=[.agg [.i k2,.d (.val (.int .u64 a2)),.d (.val (.int .u64 b2)),.d (.val (.int .u64 c2)),.d (.val (.int .u64 d2)),.i mn2,.i mx2,.d (.sl (encL subs2) subs2.length)]]);rfl;rfl;exact h32b)|(apply r_callA (f:=78) (ags:=[.agg [.i k,.d (.val (.int .u64 a)),.d (.val (.int .u64 b)),.d (.val (.int .u64 c)),.d (.val (.int .u64 d)),.i mn,.i mx,.d (.sl (encL subs) subs.length)],.d (.val (.string s))]);rfl;rfl;exact h78)|(apply r_callA (f:=40) (ags:=[.agg [.i k2,.d (.val (.int .u64 a2)),.d (.val (.int .u64 b2)),.d (.val (.int .u64 c2)),.d (.val (.int .u64 d2)),.i mn2,.i mx2,.d (.sl (encL subs2) subs2.length)]]);rfl;rfl;exact h40)|(apply r_callA (f:=47);rfl;rfl;exact h47)|(apply r_ldL (v:=.agg [.i k,.d (.val (.int .u64 a)),.d (.val (.int .u64 b)),.d (.val (.int .u64 c)),.d (.val (.int .u64 d)),.i mn,.i mx,.d (.sl (encL subs) subs.length)]);rfl;rfl;rfl)|(apply r_ldL (v:=.agg [.i k2,.d (.val (.int .u64 a2)),.d (.val (.int .u64 b2)),.d (.val (.int .u64 c2)),.d (.val (.int .u64 d2)),.i mn2,.i mx2,.d (.sl (encL subs2) subs2.length)]);rfl;rfl;rfl)|(apply r_neq;rfl;rfl;(first|(apply dT;omega)|(apply dF;omega)|rfl))|(apply r_not;rfl;rfl)|(apply r_pickF;rfl)|(apply r_ext;rfl;rfl)|(apply r_gT;rfl)|(apply r_alloc;((conv=>lhs;simp only [Nat.reduceAdd])<;>rfl);rfl)|(apply r_box;((conv=>lhs;simp only [Nat.reduceAdd])<;>rfl);rfl;rfl;rfl)|(apply r_stL;rfl;rfl;rfl;rfl;(first|rfl|(simp only [z_nil,z_add]<;>rfl));rfl;rfl)|(apply r_nilK)|(apply k_V;rfl)|(apply k_PL;rfl)|(apply k_nil)|(apply e_ret (vs:=[.d (.val _)]);rfl)|(apply w_seq)|(apply w_ops;((conv=>lhs;simp only [Nat.reduceAdd])<;>rfl))|(apply w_condT;rfl)|(apply w_condF;rfl)|(apply e_thenN)|(apply e_thenR)|(apply w_ret)|(apply w_skip))
    exact retB rfl
  rw [hsm] at h47
  have hsu : simT u=u:=(sameT_iff _ _).1 hsm
  rw [hsu] at h47 h40
  have h78b:=Word78_good r (by omega) u hdu.2.2 (fun _=>hdu.1)
  have e3 : wrN r u=(dS r u 0 r.size).getD zT:=by simp [wrN,wdT,hfb,hsu]
  have e4 : wrE r u=if (dS r u 0 r.size).isSome=true then 0 else 11:=by simp [wrE,wdE,hfb,hsu]
  rw [e3,e4] at h78b
  have hcv : ((dS r u 0 r.size).getD zT).cnt≤4000:=wdT_cnt hdu
  have h47y:=same47g_good 100000000 ((dS r u 0 r.size).getD zT) ((dS r u 0 r.size).getD zT) (by omega) (Nat.le_refl _)
  rw [sameT_self] at h47y
  clear e3 e4 hcv hsu hsm hfb hrb hdu
  generalize (dS r u 0 r.size).getD zT=v at h78b h78c h47y
  generalize (if (dS r u 0 r.size).isSome=true then (0 : Int) else 11)=e at h78b h78c
  obtain ⟨k,a,b,c,d,mn,mx,subs⟩:=t
  obtain ⟨k2,a2,b2,c2,d2,mn2,mx2,subs2⟩:=u
  obtain ⟨k3,a3,b3,c3,d3,mn3,mx3,subs3⟩:=v
  have e0 : nodeA (T.node k a b c d mn mx subs)=.agg [.i k,.d (.val (.int .u64 a)),.d (.val (.int .u64 b)),.d (.val (.int .u64 c)),.d (.val (.int .u64 d)),.i mn,.i mx,.d (.sl (encL subs) subs.length)]:=rfl
  have e2 : nodeA (T.node k2 a2 b2 c2 d2 mn2 mx2 subs2)=.agg [.i k2,.d (.val (.int .u64 a2)),.d (.val (.int .u64 b2)),.d (.val (.int .u64 c2)),.d (.val (.int .u64 d2)),.i mn2,.i mx2,.d (.sl (encL subs2) subs2.length)]:=rfl
  have e3 : nodeA (T.node k3 a3 b3 c3 d3 mn3 mx3 subs3)=.agg [.i k3,.d (.val (.int .u64 a3)),.d (.val (.int .u64 b3)),.d (.val (.int .u64 c3)),.d (.val (.int .u64 d3)),.i mn3,.i mx3,.d (.sl (encL subs3) subs3.length)]:=rfl
  rw [e0] at h76 h32 h78 h78c ⊢
  rw [e2] at h78 h32b h40 h47 h78b
  rw [e3] at h78b h78c h47y
  refine b26 (by simp) (by simp) (w_init ?_)
  unfold x26
  repeat' (first|(apply r_mvV;rfl)|(apply r_mvT;rfl)|(apply r_cat (w:=s++r);rfl;rfl;rfl;omega)|(apply r_callA (f:=75) (ags:=[]);rfl;rfl;exact haw)|(apply r_callA (f:=76);rfl;rfl;exact h76)|(apply r_callA (f:=32) (ags:=[.agg [.i k,.d (.val (.int .u64 a)),.d (.val (.int .u64 b)),.d (.val (.int .u64 c)),.d (.val (.int .u64 d)),.i mn,.i mx,.d (.sl (encL subs) subs.length)]]);rfl;rfl;exact h32)|(apply r_callA (f:=32) (ags:=[.agg [.i k2,.d (.val (.int .u64 a2)),.d (.val (.int .u64 b2)),.d (.val (.int .u64 c2)),.d (.val (.int .u64 d2)),.i mn2,.i mx2,.d (.sl (encL subs2) subs2.length)]]);rfl;rfl;exact h32b)|(apply r_callA (f:=78) (ags:=[.agg [.i k,.d (.val (.int .u64 a)),.d (.val (.int .u64 b)),.d (.val (.int .u64 c)),.d (.val (.int .u64 d)),.i mn,.i mx,.d (.sl (encL subs) subs.length)],.d (.val (.string s))]);rfl;rfl;exact h78)|(apply r_callA (f:=40) (ags:=[.agg [.i k2,.d (.val (.int .u64 a2)),.d (.val (.int .u64 b2)),.d (.val (.int .u64 c2)),.d (.val (.int .u64 d2)),.i mn2,.i mx2,.d (.sl (encL subs2) subs2.length)]]);rfl;rfl;exact h40)|(apply r_callA (f:=47) (ags:=[.agg [.i k2,.d (.val (.int .u64 a2)),.d (.val (.int .u64 b2)),.d (.val (.int .u64 c2)),.d (.val (.int .u64 d2)),.i mn2,.i mx2,.d (.sl (encL subs2) subs2.length)],.agg [.i k2,.d (.val (.int .u64 a2)),.d (.val (.int .u64 b2)),.d (.val (.int .u64 c2)),.d (.val (.int .u64 d2)),.i mn2,.i mx2,.d (.sl (encL subs2) subs2.length)]]);rfl;rfl;exact h47)|(apply r_callA (f:=78) (ags:=[.agg [.i k2,.d (.val (.int .u64 a2)),.d (.val (.int .u64 b2)),.d (.val (.int .u64 c2)),.d (.val (.int .u64 d2)),.i mn2,.i mx2,.d (.sl (encL subs2) subs2.length)],.d (.val (.string r))]);rfl;rfl;exact h78b)|(apply r_callA (f:=78) (ags:=[.agg [.i k,.d (.val (.int .u64 a)),.d (.val (.int .u64 b)),.d (.val (.int .u64 c)),.d (.val (.int .u64 d)),.i mn,.i mx,.d (.sl (encL subs) subs.length)],.d (.val (.string (s++r)))]);rfl;rfl;exact h78c)|(apply r_callA (f:=47) (ags:=[.agg [.i k3,.d (.val (.int .u64 a3)),.d (.val (.int .u64 b3)),.d (.val (.int .u64 c3)),.d (.val (.int .u64 d3)),.i mn3,.i mx3,.d (.sl (encL subs3) subs3.length)],.agg [.i k3,.d (.val (.int .u64 a3)),.d (.val (.int .u64 b3)),.d (.val (.int .u64 c3)),.d (.val (.int .u64 d3)),.i mn3,.i mx3,.d (.sl (encL subs3) subs3.length)]]);rfl;rfl;exact h47y)|(apply r_ldL (v:=.agg [.i k,.d (.val (.int .u64 a)),.d (.val (.int .u64 b)),.d (.val (.int .u64 c)),.d (.val (.int .u64 d)),.i mn,.i mx,.d (.sl (encL subs) subs.length)]);rfl;rfl;rfl)|(apply r_ldL (v:=.agg [.i k2,.d (.val (.int .u64 a2)),.d (.val (.int .u64 b2)),.d (.val (.int .u64 c2)),.d (.val (.int .u64 d2)),.i mn2,.i mx2,.d (.sl (encL subs2) subs2.length)]);rfl;rfl;rfl)|(apply r_ldL (v:=.agg [.i k3,.d (.val (.int .u64 a3)),.d (.val (.int .u64 b3)),.d (.val (.int .u64 c3)),.d (.val (.int .u64 d3)),.i mn3,.i mx3,.d (.sl (encL subs3) subs3.length)]);rfl;rfl;rfl)|(apply r_eql;rfl;rfl;(first|(apply dT;omega)|(apply dF;omega)|rfl))|(apply r_neq;rfl;rfl;(first|(apply dT;omega)|(apply dF;omega)|rfl))|(apply r_not;rfl;rfl)|(apply r_pickT;rfl)|(apply r_pickF;rfl)|(apply r_ext;rfl;rfl)|(apply r_gT;rfl)|(apply r_alloc;((conv=>lhs;simp only [Nat.reduceAdd])<;>rfl);rfl)|(apply r_box;((conv=>lhs;simp only [Nat.reduceAdd])<;>rfl);rfl;rfl;rfl)|(apply r_stL;rfl;rfl;rfl;rfl;(first|rfl|(simp only [z_nil,z_add]<;>rfl));rfl;rfl)|(apply r_nilK)|(apply k_V;rfl)|(apply k_PL;rfl)|(apply k_nil)|(apply e_ret (vs:=[.d (.val _)]);rfl)|(apply w_seq)|(apply w_ops;((conv=>lhs;simp only [Nat.reduceAdd])<;>rfl))|(apply w_condF;rfl)|(apply e_thenN)|(apply w_ret)|(apply w_skip))
  exact retB rfl
end Go.Sv
namespace Go.Sv
open Go Go.Proofs Go.Proofs.Ytcnlgmajkclgjaa Go.ChangeShapes Go.WideShapes Go.ChangeAt Go.RowKit
set_option linter.unusedVariables false
set_option maxRecDepth 100000

theorem try_own : ownKnob Try.prog.godebug=none:=by kernel_rfl
theorem try_laidOut : laidOutB Try.prog=true:=by kernel_rfl
theorem rowed : ∀ t ∈ [27,9,3,5,41],Try.prog.readableRec t=true∧t < Try.prog.types.size:=by
  intro t ht
  simp only [List.mem_cons,List.not_mem_nil,or_false] at ht
  rcases ht with rfl | rfl | rfl | rfl | rfl
  all_goals exact ⟨by kernel_rfl,of_decide_eq_true (by kernel_rfl)⟩

section
variable {H : Type} {enc : TypeId × Value→H}
theorem stays_all {W W' : World} {sp : Nat→Bool} (hsame : ∀ p : MemPlace,p.block < W.heap.size→W.sameAt W' p) : ∀ {ts : List TypeId} {vs : List Value} {ds : List (DataW H)} {ps : List MemPlace},(∀ t ∈ ts,Try.prog.readableRec t=true∧t < Try.prog.types.size) →
    DataW.TrodAll enc Try.prog W 0 (fun _=>true) true ts vs ds ps→(∀ p ∈ ps,p.block < W.heap.size)→(∀ p ∈ ps,sp p.block=true)→DataW.TrodAll enc Try.prog W' 0 sp true ts vs ds ps
  | [],[],[],ps,_,h,_,_=>h
  | t :: ts,v :: vs,d :: ds,ps,hr,h,hl,hs=>by
    obtain ⟨p,q,h1,h2,rfl⟩:=h
    refine ⟨p,q,WideElems.Trod_stays try_laidOut (hr t (by simp)).1 (hr t (by simp)).2 h1 (fun x hx=>hsame x (hl x (by simp [hx]))) (fun x hx=>hs x (by simp [hx])),?_,rfl⟩
    exact stays_all hsame (fun t ht=>hr t (by simp [ht])) h2 (fun x hx=>hl x (by simp [hx])) (fun x hx=>hs x (by simp [hx]))

theorem law_post {s : ChangeSpec} {f : Func} {W W' : World} {args : Array Value} {ds gs : List (DataW H)} {before : List MemPlace} (hW : DataW.Whole enc Try.prog f.params.toList s.vars false W args.toList ds gs before) (hsv : s.vars=[])
    (h1 : (s.fn H (ds++gs)).results=[.lit (.bool true)]) (h2 : (s.fn H (ds++gs)).args=ds) (h3 : (s.fn H (ds++gs)).vars=[]) (hrt : f.resultTypes=#[4]) (hb : Below W.heap.size W W')
    (hr : ∀ t ∈ f.params.toList,Try.prog.readableRec t=true∧t < Try.prog.types.size) : s.post enc Try.prog f false true false false W args (.bool true) W':=by
  have hlt:=hW.lt
  have hW0:=hW
  obtain ⟨p,q,hA,hV,rfl,_,_⟩:=hW
  rw [hsv] at hV
  obtain ⟨rfl,rfl⟩:=trodVars_none hV
  have hlt' : ∀ x ∈ p,x.block < W.heap.size:=fun x hx=>by simpa using hlt x (by simp [hx])
  refine ⟨ds,[],p++[],[],p,[],hW0,?_,?_,?_,hb.frame _,fun h=>by cases h⟩
  · rw [hrt,h1]
    exact trodAll_mk1 (shut_bool Try.underlying4 true)
  · rw [h2]
    exact stays_all (fun x hx=>hb.same hx) hr hA hlt' (fun x hx=>by simpa using hlt' x hx)
  · rw [hsv,h3];rfl

theorem Kept.below {w w' : World} (h : Kept w w' (fun k=>(none : Option (List DV)).isSome=true∧(none : Option Nat)=some k)) : Below w.heap.size w w' :=
  ⟨h.os,h.tape,h.output,h.size,fun k hk=>h.keep k hk (by simp)⟩

theorem law_calls {f : FuncId} {ags : List AV} (hg : Good Try.prog f ags none (.b true) none none) {W : World} {args : Array Value} (ha : RAs W NoA (fun _=>none) NoA args ags) : Calls Try.prog f args W fun e W'=>e=.returned (.bool true)∧Below W.heap.size W W':=by
  have hNo : (fun k=>NoA k ∨ ((none : Option (List DV)).isSome=true∧(none : Option Nat)=some k))=NoA:=by
    funext k;simp [NoA]
  have hU : (fun b : Nat=>(none : Option (List DV)).isSome=true∧b=0)=NoA:=by
    funext k;simp [NoA]
  have:=hg.2.2 W NoA none args (fun k h=>h.elim) (fun k h=>by simp at h) (fun ds h=>by cases h) (by rw [hNo,hU];exact ha)
  refine this.mono fun e W' ⟨v,nm,he,hk,_,_,_,hv⟩=>?_
  have:=hv.val_eq
  subst this
  exact ⟨he,hk.below⟩
theorem RAs.nil {W : World} : RAs W NoA (fun _=>none) NoA #[] []:=⟨rfl,fun j h=>by simp at h⟩
theorem RAs.mk : ∀ {W : World} {vs : List Value} {ags : List AV},vs.length=ags.length→(∀ (j : Nat) v a,vs[j]?=some v→ags[j]?=some a→RA W NoA (fun _=>none) NoA v a)→RAs W NoA (fun _=>none) NoA vs.toArray ags:=by
  intro W vs ags hl h
  refine ⟨by simpa using hl,fun j hj=>?_⟩
  have hj2 : j < vs.length:=by omega
  have : vs.toArray.getD j undef=vs[j]:=by simp [Array.getD,hj2]
  rw [this]
  exact h j _ _ (List.getElem?_eq_getElem hj2) (List.getElem?_eq_getElem hj)
theorem RDs.toA {W : World} {vs : List Value} {ds : List DV} (h : RDs W vs ds) : RA W NoA (fun _=>none) NoA (.agg vs.toArray) (.agg (ds.map AV.d)):=by
  refine .agg _ _ (by simpa using h.1) fun j hj=>?_
  have hj1 : j < ds.length:=by simpa using hj
  have hj2 : j < vs.length:=by rw [h.1];exact hj1
  have : vs.toArray.getD j undef=vs[j]:=by simp [Array.getD,hj2]
  rw [this,List.getElem_map]
  exact .d _ _ (h.2 j _ _ (List.getElem?_eq_getElem hj2) (List.getElem?_eq_getElem hj1))
theorem arg_node {W : World} {base : Nat} {v : Value} {d : DataW H} {p : List MemPlace} (hok : Value.okWide Try.prog W .any base 27 v) (h : DataW.Trod enc Try.prog W 0 (fun _=>true) true 27 v d p) : ∃ t : T,inT t∧RA W NoA (fun _=>none) NoA v (nodeA t):=by
  obtain ⟨n,hn⟩:=h
  obtain ⟨t,h1,h2⟩:=node_open n _ _ hn
  have hs : ∃ cs,v=.agg cs:=by
    unfold Value.okWide at hok
    rw [Try.underlying27] at hok
    obtain ⟨cs,h,_⟩:=hok
    exact ⟨cs,h⟩
  obtain ⟨cs,rfl⟩:=hs
  exact ⟨t,h1,h2.toA⟩
theorem arg_str {W : World} {s : ByteArray} : RA W NoA (fun _=>none) NoA (.string s) (.d (.val (.string s))):=.d _ _ (.val _ rfl)
end
theorem weights_str {H : Type} {P : Program} : ∀ {ts : List TypeId} {ds : List (DataW H)} (j : Nat) {t : TypeId} {s : ByteArray},(DataW.weightsEach P ts ds).all (·≤reachBytes)=true→ts[j]?=some t→ds[j]?=some (.lit (.string s.data.toList))→s.size≤140737488355328
  | [],_,j,t,s,_,h,_=>by simp at h
  | _ :: _,[],j,t,s,_,_,h=>by simp at h
  | t0 :: ts,d :: ds,0,t,s,h,h1,h2=>by
    simp at h1 h2
    subst h2
    simp only [DataW.weightsEach,DataW.weights,List.all_append,List.all_cons,Bool.and_eq_true,decide_eq_true_eq] at h
    have h3:=h.1.1
    have e : s.data.toList.length=s.size:=by simp
    rw [e] at h3
    unfold reachBytes at h3
    omega
  | t0 :: ts,d :: ds,j + 1,t,s,h,h1,h2=>by
    simp only [DataW.weightsEach,List.all_append,Bool.and_eq_true] at h
    exact weights_str j h.2 (by simpa using h1) (by simpa using h2)
theorem joined_of {P : Program} {f : FuncId} {fn : Func} {s : ChangeSpec} {c : OpenClaim}
    (k1 : (c.wf (OpenSpec.ofChange s) && laidOutB P && mapsRowed P && fn.params.all (P.readableRec ·) && namedTie P c.named s.vars && (c.stops == []) && (P.stops == []) && (c.knobs == []) && (P.stopKnobs == []))=true)
    (k2 : (c.inPlace == P.inPlace f)=true) (k3 : (c.unfollowed == P.unfollowed f)=true) (k4 : (c.recurses == P.recurses f)=true) (k5 : (c.named == P.varsNamed f)=true)
    (k6 : ((c.maps == (fn.params.toList++s.plain.varTypes P).any (P.mapsRec ·)) && (c.ifaces == (fn.params.toList++s.plain.varTypes P).any (P.ifacesRec ·)) && (c.mapsOut == P.mapsAmong fn.resultTypes.toList) &&
  (c.loops == (fn.params.toList++s.plain.varTypes P).any (P.loopsFrom ·)) && (c.wideKeys == (fn.params.toList++s.plain.varTypes P++fn.resultTypes.toList).any (P.wideKeysFrom ·)) &&
  s.vars.all (P.varReadable ·) && fn.resultTypes.all (fun t=>P.readableRec t && decide (t < P.types.size)) && (c.ifacesOut == fn.resultTypes.toList.any (P.ifacesRec ·)) && (c.loopsOut == fn.resultTypes.toList.any (P.loopsFrom ·)))=true)
    (hm : P.mayEnter=true) (hl : P.liftsFinal=c.lifted) (hk : P.make=some c.make) (k7 : ((c.plainKeys == P.plainKeys) && c.shortTexts.isNone && P.stopsHeard && (c.kinds == (if c.domain.isEmpty then [] else fn.params.toList.map fun t=>match P.underlying t with | some (.int k)=>some k | _=>none)) && (c.pinned == c.pinnedBy) &&
  (c.veiled == (fn.params.toList++s.plain.varTypes P++fn.resultTypes.toList).any (P.veiledRec ·)) && c.veiledFits P fn.params.toList (fn.params.toList++s.plain.varTypes P++fn.resultTypes.toList))=true) : joinedFacts P f fn s c=true:=by
  unfold joinedFacts
  simp only [Bool.and_eq_true] at k1 k6 k7 ⊢
  obtain ⟨⟨⟨⟨⟨⟨⟨⟨a1,a2⟩,a3⟩,a4⟩,a5⟩,a6⟩,a7⟩,a8⟩,a9⟩:=k1
  obtain ⟨⟨⟨⟨⟨⟨⟨⟨b1,b2⟩,b3⟩,b4⟩,b5⟩,b6⟩,b7⟩,b8⟩,b9⟩:=k6
  obtain ⟨⟨⟨⟨⟨⟨c1,c2⟩,c3⟩,c4⟩,c5⟩,c6⟩,c7⟩:=k7
  have d1 : (c.lifted == P.liftsFinal)=true:=by rw [hl];exact beq_self_eq_true _
  have d2 : (P.make == some c.make)=true:=by rw [hk];exact beq_self_eq_true _
  repeat' apply And.intro
  all_goals assumption
end Go.Sv
namespace Go.Sv
open Go Go.Proofs Go.Proofs.Ytcnlgmajkclgjaa
set_option maxRecDepth 100000
def orderN : List Nat:=[104,97,114,110,101,115,115,32,52,100,99,102,50,98,101,99,57,54,53,101,49,53,55,56,102,100,97,52,56,101,99,52,97,101,57,98,98,50,100,98,101,100,51,97,52,98,99,100,100,51,97,57,56,98,50,102,51,57,102,50,50,101,97,100,48,54,49,51,100,51,56,56,32,99,117,116,32,97,116,32,115,105,101,118,101,47,115,105,101,118,101,108,97,119,49,49,46,69,110,100,115,84,101,108,108,32,115,105,101,118,101,47,115,105,101,118,101,108,97,119,49,49,46,69,110,100,115,77,97,116,99,104,32,115,105,101,118,101,47,115,105,101,118,101,108,97,119,49,49,46,69,110,100,115,83,105,109,112,108,101,32,115,105,101,118,101,47,115,105,101,118,101,108,97,119,49,49,46,69,110,100,115,66,101,115,116,32,115,105,101,118,101,47,115,105,101,118,101,108,97,119,49,49,46,69,110,100,115,76,111,110,103,101,114,32,115,105,101,118,101,47,115,105,101,118,101,108,97,119,49,49,46,69,110,100,115,80,97,114,116,115,32,115,105,101,118,101,47,115,105,101,118,101,108,97,119,49,49,46,69,110,100,115,83,116,97,114,32,115,105,101,118,101,47,115,105,101,118,101,108,97,119,49,48,46,83,105,109,112,108,105,102,121,84,101,108,108,115,32,115,105,101,118,101,47,115,105,101,118,101,108,97,119,49,48,46,83,105,109,112,108,105,102,121,65,103,97,105,110,32,115,105,101,118,101,47,115,105,101,118,101,108,97,119,49,48,46,83,105,109,112,108,105,102,121,75,101,101,112,115,32,115,105,101,118,101,47,115,105,101,118,101,108,97,119,49,48,46,83,105,109,112,108,105,102,121,79,110,101,32,115,105,101,118,101,47,115,105,101,118,101,108,97,119,49,51,46,69,120,112,97,110,100,84,101,108,108,115,32,115,105,101,118,101,47,115,105,101,118,101,108,97,119,49,51,46,69,120,112,97,110,100,83,97,109,101,32,115,105,101,118,101,47,115,105,101,118,101,108,97,119,49,51,46,69,120,112,97,110,100,80,108,97,105,110,32,115,105,101,118,101,47,115,105,101,118,101,108,97,119,49,51,46,69,120,112,97,110,100,66,117,100,103,101,116,32,115,105,101,118,101,47,115,105,101,118,101,108,97,119,49,51,46,69,120,112,97,110,100,70,105,114,115,116,32,115,105,101,118,101,47,115,105,101,118,101,108,97,119,48,57,46,77,101,97,115,117,114,101,84,101,108,108,115,32,115,105,101,118,101,47,115,105,101,118,101,108,97,119,48,57,46,77,101,97,115,117,114,101,75,110,111,119,115,32,115,105,101,118,101,47,115,105,101,118,101,108,97,119,48,57,46,77,101,97,115,117,114,101,76,101,110,103,116,104,115,32,115,105,101,118,101,47,115,105,101,118,101,108,97,119,48,57,46,77,101,97,115,117,114,101,80,97,114,116,115,32,115,105,101,118,101,47,115,105,101,118,101,108,97,119,48,57,46,77,101,97,115,117,114,101,82,101,112,32,115,105,101,118,101,47,115,105,101,118,101,108,97,119,49,50,46,68,101,114,105,118,101,84,101,108,108,115,32,115,105,101,118,101,47,115,105,101,118,101,108,97,119,49,50,46,68,101,114,105,118,101,76,111,110,103,101,115,116,32,115,105,101,118,101,47,115,105,101,118,101,108,97,119,49,50,46,68,101,114,105,118,101,87,111,114,100,115,32,115,105,101,118,101,47,115,105,101,118,101,108,97,119,49,50,46,68,101,114,105,118,101,70,105,114,115,116,32,115,105,101,118,101,47,115,105,101,118,101,108,97,119,49,50,46,68,101,114,105,118,101,83,105,109,112,108,101]
theorem order_eq : Try.prog.initOrder=String.ofList (orderN.map Char.ofNat):=by kernel_rfl
theorem order_list : Try.prog.initOrder.toList=orderN.map Char.ofNat:=by rw [order_eq,String.toList_ofList]
theorem ow1 : (stripLifts liftWords (behindMainWord (wordsSigns (orderN.map Char.ofNat)))).1=[]:=by kernel_rfl
theorem ow2 : ((stripLifts liftWords (behindMainWord (wordsSigns (orderN.map Char.ofNat)))).2.head? == some "cut".toList)=true:=by kernel_rfl
theorem ow3 : ((behindMainWord (wordsSigns (orderN.map Char.ofNat))).isEmpty=false):=by kernel_rfl
theorem ow4 : ((behindMainWord (wordsSigns (orderN.map Char.ofNat))).head? == some "cut".toList)=true:=by kernel_rfl
theorem ow5 : ((behindMainWord (wordsSigns (orderN.map Char.ofNat))).head? == some "carried".toList)=false:=by kernel_rfl
theorem ow6 : ((behindMainWord (wordsSigns (orderN.map Char.ofNat))).head? == some "gc".toList)=false:=by kernel_rfl
theorem ow7 : ((behindMainWord (wordsSigns (orderN.map Char.ofNat))).head? == some "spec".toList)=false:=by kernel_rfl
theorem try_lays : Try.prog.laysLater=false:=by kernel_rfl
theorem try_refl : Try.prog.bearsReflect=false:=by kernel_rfl
theorem try_door : Try.prog.doorFits []=true:=by kernel_rfl
theorem headLifts_of {P : Program} {l : List Char} (h : P.initOrder.toList=l) (h1 : (stripLifts liftWords (behindMainWord (wordsSigns l))).1=[]) (h2 : ((stripLifts liftWords (behindMainWord (wordsSigns l))).2.head? == some "cut".toList)=true) : P.headLifts=[]:=by
  subst h
  unfold Program.headLifts
  simp only [h2,if_true,h1]
theorem try_headLifts : Try.prog.headLifts=[]:=headLifts_of order_list ow1 ow2
theorem mayEnter_of {P : Program} {l : List Char} (h : P.initOrder.toList=l) (h1 : (stripLifts liftWords (behindMainWord (wordsSigns l))).1=[]) (h2 : ((stripLifts liftWords (behindMainWord (wordsSigns l))).2.head? == some "cut".toList)=true)
    (h3 : (behindMainWord (wordsSigns l)).isEmpty=false) (k1 : P.laysLater=false) (k2 : P.bearsReflect=false) (k3 : P.doorFits []=true) : P.mayEnter=true:=by
  subst h
  unfold Program.mayEnter
  generalize behindMainWord (wordsSigns P.initOrder.toList)=q at h1 h2 h3 ⊢
  cases q with
  | nil=>cases h3
  | cons c rest =>
    have e1 : ([] : List String).contains "finals"=false:=rfl
    have e2 : ([] : List String).contains "reflectrows"=false:=rfl
    have e3 : ([] : List String).contains "leanrows"=false:=rfl
    simp only [h1,h2,k1,k2,k3,e1,e2,e3,Bool.not_false,Bool.or_true,Bool.and_true,Bool.or_self,Bool.and_self]
theorem try_mayEnter : Try.prog.mayEnter=true:=mayEnter_of order_list ow1 ow2 ow3 try_lays try_refl try_door
theorem lifts_of {P : Program} {l : List Char} (h : P.initOrder.toList=l) (h5 : ((behindMainWord (wordsSigns l)).head? == some "carried".toList)=false) (k : P.headLifts=[]) : P.liftsFinal=false:=by
  subst h
  unfold Program.liftsFinal
  rw [k]
  have e1 : ([] : List String).contains "finals"=false:=rfl
  simp only [h5,e1,Bool.false_and,Bool.or_self]
theorem try_lifts : Try.prog.liftsFinal=false:=lifts_of order_list ow5 try_headLifts
theorem make_of {P : Program} {l : List Char} (h : P.initOrder.toList=l) (h3 : (behindMainWord (wordsSigns l)).isEmpty=false) (h4 : ((behindMainWord (wordsSigns l)).head? == some "cut".toList)=true)
    (h6 : ((behindMainWord (wordsSigns l)).head? == some "gc".toList)=false) (h7 : ((behindMainWord (wordsSigns l)).head? == some "spec".toList)=false) : P.make=some .cut:=by
  subst h
  unfold Program.make
  generalize behindMainWord (wordsSigns P.initOrder.toList)=q at h3 h4 h6 h7 ⊢
  cases q with
  | nil=>cases h3
  | cons c rest =>
    simp only [List.head?_cons] at h4 h6 h7
    have g : ∀ x : List Char,(some c == some x)=(c == x):=fun x=>rfl
    rw [g] at h4 h6 h7
    simp only [h4,h6,h7,Bool.or_self,Bool.false_eq_true,if_false,Bool.true_or,if_true]
theorem try_make : Try.prog.make=some .cut:=make_of order_list ow3 ow4 ow6 ow7
end Go.Sv
