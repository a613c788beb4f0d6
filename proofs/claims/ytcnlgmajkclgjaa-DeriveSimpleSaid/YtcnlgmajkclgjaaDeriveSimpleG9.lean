/- A part of the proof of the law DeriveSimple: that it answers true for every input, and that the input reads behind the call as before (no condition). -/
import Derived.Test.YtcnlgmajkclgjaaDeriveSimpleG8
set_option linter.all false
set_option linter.unusedSectionVars false
set_option linter.unusedVariables false
set_option linter.unusedSimpArgs false
namespace Go.Sv
open Go Go.Proofs
section
variable {P : Program} {Q : Cont} {fr : Fr} {C : Heap} {Z Z' : Frz} {nx : Nat} {base n d : Nat} {l : List (Nat × XO)} {kp : Option (List Nat)} {x i y s : X}
theorem r_slN1 {t : T} {L : List T} {m : Nat} (hx : x.ev fr=.d (.sl (encL (t :: L)) m)) (hi : i.ev fr=.i 1) (hm : (t :: L).length=m) (k : R P l base kp Q nx (fr.put d (.d (.sl (encL L) L.length))) C Z) : R P ((n,⟨some d,none,.slS 8 x (some i) none⟩) :: l) base kp Q nx fr C Z:=by
  subst hm
  refine r_p ?_ k
  have h1 : (encL (t :: L)).length=(t :: L).length * 8∧(8 : Nat) ≠ 0:=⟨encL_len _,by omega⟩
  simp only [xp,hx,hiOf,loOf,hi,intUpto]
  rw [if_pos h1,Option.bind_some,if_pos (by simp only [List.length_cons];omega)]
  simp only [Option.map_some,List.length_cons]
  have e2 : (encL (t :: L)).drop 8=encL L:=by
    rw [encL,List.drop_append_of_le_length (by rw [encN_len];exact Nat.le_refl _),List.drop_of_length_le (by rw [encN_len];exact Nat.le_refl _),List.nil_append]
  cases L with
  | nil=>simp [encL]
  | cons u L =>
    have e1 : Int.toNat 1=1:=rfl
    simp only [e1,List.length_cons,Nat.one_mul,e2]
    rw [if_neg (by omega),show (L.length + 1 + 1 - 1)=L.length + 1 by omega,List.take_of_length_le (by rw [encL_len];simp)]
end
set_option maxRecDepth 100000
set_option maxHeartbeats 4000000
attribute [local irreducible] W E R KP thenK blockK retK Good xwp aRun
end Go.Sv
namespace Go.Sv
open Go Go.Proofs
section
variable {P : Program} {Q : Cont} {fr : Fr} {C : Heap} {Z : Frz} {nx : Nat} {base n d : Nat} {l : List (Nat × XO)} {kp : Option (List Nat)} {x i y s : X}
theorem r_mkN2 {t u : T} {id : Nat} (hx : x.ev fr=nodeA t) (hy : y.ev fr=nodeA u) (hid : base + n=id) (k : R P l base kp Q nx (fr.put d (.slL id 0 2 8)) (C.put id ((encL [t,u]).map AV.d)) Z) : R P ((n,⟨some d,none,.mkrow [.int .i64 0,.int .u64 0,.int .u64 0,.int .u64 0,.int .u64 0,.int .i64 0,.int .i64 0,.slice none 0 0] 2 8 [(0,8,x),(8,8,y)]⟩) :: l) base kp Q nx fr C Z:=by
  subst hid
  refine r_n (v:=.slL (base + n) 0 2 8) (r:=(encL [t,u]).map AV.d) ?_ k
  obtain ⟨k0,a0,b0,c0,d0,mn,mx,subs⟩:=t
  obtain ⟨k1,a1,b1,c1,d1,mn1,mx1,subs1⟩:=u
  simp only [xn,List.map_cons,List.map_nil,hx,hy]
  rfl
end
theorem okS_flat {l : List T} (h : okL l) : ∀ t ∈ flatL 4 l,okS t:=fun t ht=>okT_S ((okL_iff _).1 (okL_flat 4 h) t ht)
theorem sq_le {c : Nat} (h : c≤4000) : c * c≤16000000:=Nat.mul_le_mul h h
set_option maxRecDepth 100000
set_option maxHeartbeats 4000000
attribute [local irreducible] W E R KP thenK blockK retK Good xwp aRun
theorem row153_of {x : Nat} (l : List T) (hok : okL l) (hsf : sfL l) (hc : cntL l≤4000)
    (hby : ∀ t r,l=t :: r→Good Try.prog 127 [nodeA t,.d (.val (.int .u8 (x : Nat)))] none (nodeA (byT x t)) none none)
    (hrow : ∀ t r,l=t :: r→Good Try.prog 153 [.d (.sl (encL r) r.length),.d (.val (.int .u8 (x : Nat)))] none (nodeA (rowD r (byL x r))) none none) :
    Good Try.prog 153 [.d (.sl (encL l) l.length),.d (.val (.int .u8 (x : Nat)))] none (nodeA (rowD l (byL x l))) none none:=by
  match l,hok,hsf,hc,hby,hrow with
  | [],_,_,_,_,_ =>
    have h54 : Good Try.prog 54 [.d (.sl [] 0)] none (.agg [.i 2,.d (.val (.int .u64 0)),.d (.val (.int .u64 0)),.d (.val (.int .u64 0)),.d (.val (.int .u64 0)),.i 0,.i 0,.d (.sl [] 0)]) none none:=alt54_good [] (by simp [cntL]) (fun t ht=>by simp [flatL] at ht)
    have e : nodeA (rowD [] (byL x []))=.agg [.i 2,.d (.val (.int .u64 0)),.d (.val (.int .u64 0)),.d (.val (.int .u64 0)),.d (.val (.int .u64 0)),.i 0,.i 0,.d (.sl [] 0)]:=rfl
    rw [e]
    refine b153 (by simp) (by simp) (w_init ?_)
    unfold x153
    simp only [List.length_nil]
    repeat' (first|(apply r_mvS;rfl)|(apply r_call (bs:=[.d (.sl [] 0)]) (us:=[]);rfl;rfl;exact h54;rfl)|(apply r_eql;rfl;rfl;(first|(apply dT;omega)|(apply dF;omega)|rfl))|(apply r_lenD;rfl)|(apply r_alloc;((conv=>lhs;simp only [Nat.reduceAdd])<;>rfl);rfl)|(apply r_stL;rfl;rfl;rfl;rfl;(first|rfl|(simp only [z_nil,z_add]<;>rfl));rfl;rfl)|(apply r_nilK)|(apply k_V;rfl)|(apply k_PL;rfl)|(apply k_S;rfl)|(apply k_nil)|(apply e_ret;rfl)|(apply w_seq)|(apply w_ops;((conv=>lhs;simp only [Nat.reduceAdd])<;>rfl))|(apply w_condT;rfl)|(apply e_thenN)|(apply e_thenR)|(apply w_ret))
    exact .data _ rfl
  | [t],hok,hsf,_,hby,_ =>
    have g1:=hby t [] rfl
    have hs : NodeAt (encL [t]) (0 * 8) t:=NodeAt.sub (l:=[t]) (i:=0) (by simp)
    have e : rowD [t] (byL x [t])=byT x t:=by simp [rowD,byL]
    have hna : [nodeA t,.d (.val (.int .u8 (x : Nat)))].all AV.nrm=true:=by rw [List.all_cons,nodeA_nrm];rfl
    rw [e]
    clear e hby hrow hok hsf
    generalize byT x t=v at g1
    obtain ⟨k,a,b,c,d,mn,mx,subs⟩:=v
    have e0 : nodeA (T.node k a b c d mn mx subs)=.agg [.i k,.d (.val (.int .u64 a)),.d (.val (.int .u64 b)),.d (.val (.int .u64 c)),.d (.val (.int .u64 d)),.i mn,.i mx,.d (.sl (encL subs) subs.length)]:=rfl
    rw [e0] at g1 ⊢
    refine b153 (by simp) (by simp) (w_init ?_)
    unfold x153
    simp only [List.length_cons,List.length_nil,Nat.zero_add]
    repeat' (first|(apply r_mvV;rfl)|(apply r_mvS;rfl)|(apply r_p;apply ix_sub (j:=0);rfl;rfl;(simp))|(apply r_l;apply ld_node';exact hs;rfl)|(apply r_callA (ags:=[nodeA t,.d (.val (.int .u8 (x : Nat)))]);rfl;exact hna;exact g1)|(apply r_ldL (v:=.agg [.i k,.d (.val (.int .u64 a)),.d (.val (.int .u64 b)),.d (.val (.int .u64 c)),.d (.val (.int .u64 d)),.i mn,.i mx,.d (.sl (encL subs) subs.length)]);rfl;rfl;rfl)|(apply r_eql;rfl;rfl;(first|(apply dT;omega)|(apply dF;omega)|rfl))|(apply r_lenD;rfl)|(apply r_alloc;((conv=>lhs;simp only [Nat.reduceAdd])<;>rfl);rfl)|(apply r_stL;rfl;rfl;rfl;rfl;(first|rfl|(simp only [z_nil,z_add]<;>rfl));rfl;rfl)|(apply r_nilK)|(apply k_V;rfl)|(apply k_PL;rfl)|(apply k_S;rfl)|(apply k_nil)|(apply e_ret;rfl)|(apply w_seq)|(apply w_ops;((conv=>lhs;simp only [Nat.reduceAdd])<;>rfl))|(apply w_condT;rfl)|(apply w_condF;rfl)|(apply e_thenN)|(apply e_thenR)|(apply w_ret)|(apply w_skip))
    exact .data _ rfl
  | t :: u :: r,hok,hsf,hc,hby,hrow =>
    have g1:=hby t (u :: r) rfl
    have g2:=hrow t (u :: r) rfl
    simp only [okL] at hok
    simp only [sfL] at hsf
    have hlen:=cntL_len (t :: u :: r)
    have hrl : r.length≤4000:=by simp only [List.length_cons] at hlen;omega
    have hs : NodeAt (encL (t :: u :: r)) (0 * 8) t:=NodeAt.sub (l:=t :: u :: r) (i:=0) (by simp)
    have hna : [nodeA t,.d (.val (.int .u8 (x : Nat)))].all AV.nrm=true:=by rw [List.all_cons,nodeA_nrm];rfl
    have hct : t.cnt≤4000:=by simp only [cntL] at hc;omega
    have hcr : cntL (u :: r)≤3999:=by have:=cnt_pos t;simp only [cntL] at hc ⊢;omega
    have g3:=null131_good 4000 t (encL (t :: u :: r)) (0 * 8) hs hct (by omega) hok.1
    obtain ⟨d1,d2,_,d4⟩:=byT_ok x t hok.1 hsf.1
    obtain ⟨f1,f2,_,f4⟩:=rowD_ok x (u :: r) _ hok.2 hsf.2 (byL_ok x (u :: r) hok.2 hsf.2)
    have hq:=sq_le hct
    have hq2:=sq_le (c:=cntL (u :: r) + 1) (by omega)
    have g4:=cat53_good (byT x t :: u :: r) (by rw [cntL];omega)
    rw [show (byT x t :: u :: r).length=1 + (u :: r).length by simp only [List.length_cons];omega] at g4
    have hcc:=cnt_cat (byT x t :: u :: r)
    rw [cntL] at hcc
    have oc : okT (catS (byT x t :: u :: r)):=okT_cat ⟨d1,hok.2⟩
    have g5:=alt54_good [catS (byT x t :: u :: r),rowD (u :: r) (byL x (u :: r))] (by simp only [cntL] at hcc hcr f4 hq2 ⊢;omega) (okS_flat ⟨oc,f1,trivial⟩)
    have e : rowD (t :: u :: r) (byL x (t :: u :: r))=if nlT t=true then altS [catS (byT x t :: u :: r),rowD (u :: r) (byL x (u :: r))] else catS (byT x t :: u :: r):=by
      rw [byL,rowD];rfl
    rw [e]
    clear e hok hsf hc hby hrow d1 d2 d4 f1 f2 f4 hq hq2 hct hcr oc hcc
    generalize altS [catS (byT x t :: u :: r),rowD (u :: r) (byL x (u :: r))]=v4 at g5 ⊢
    generalize catS (byT x t :: u :: r)=v2 at g4 g5 ⊢
    generalize rowD (u :: r) (byL x (u :: r))=v3 at g2 g5
    generalize byT x t=v1 at g1 g4
    generalize nlT t=q at g3 ⊢
    obtain ⟨k,a,b,c,d,mn,mx,subs⟩:=v1
    obtain ⟨k2,a2,b2,c2,d2,mn2,mx2,subs2⟩:=v2
    obtain ⟨k3,a3,b3,c3,d3,mn3,mx3,subs3⟩:=v3
    obtain ⟨k4,a4,b4,c4,d4,mn4,mx4,subs4⟩:=v4
    have e1 : nodeA (T.node k a b c d mn mx subs)=.agg [.i k,.d (.val (.int .u64 a)),.d (.val (.int .u64 b)),.d (.val (.int .u64 c)),.d (.val (.int .u64 d)),.i mn,.i mx,.d (.sl (encL subs) subs.length)]:=rfl
    have e2 : nodeA (T.node k2 a2 b2 c2 d2 mn2 mx2 subs2)=.agg [.i k2,.d (.val (.int .u64 a2)),.d (.val (.int .u64 b2)),.d (.val (.int .u64 c2)),.d (.val (.int .u64 d2)),.i mn2,.i mx2,.d (.sl (encL subs2) subs2.length)]:=rfl
    have e3 : nodeA (T.node k3 a3 b3 c3 d3 mn3 mx3 subs3)=.agg [.i k3,.d (.val (.int .u64 a3)),.d (.val (.int .u64 b3)),.d (.val (.int .u64 c3)),.d (.val (.int .u64 d3)),.i mn3,.i mx3,.d (.sl (encL subs3) subs3.length)]:=rfl
    have e4 : nodeA (T.node k4 a4 b4 c4 d4 mn4 mx4 subs4)=.agg [.i k4,.d (.val (.int .u64 a4)),.d (.val (.int .u64 b4)),.d (.val (.int .u64 c4)),.d (.val (.int .u64 d4)),.i mn4,.i mx4,.d (.sl (encL subs4) subs4.length)]:=rfl
    rw [e1] at g1
    rw [e2] at g4
    rw [e3] at g2
    rw [e4] at g5
    simp only [List.length_cons] at g2 ⊢
    cases q with
    | false =>
      rw [if_neg (by simp),e2]
      refine b153 (by simp) (by simp) (w_init ?_)
      unfold x153
      repeat' (first|(apply r_mvV;rfl)|(apply r_mvS;rfl)|(apply r_p;apply ix_sub (j:=0);rfl;rfl;(simp))|(apply r_l;apply ld_node';exact hs;rfl)|(apply r_callA (f:=127) (ags:=[nodeA t,.d (.val (.int .u8 (x : Nat)))]);rfl;exact hna;exact g1)|(apply r_callA (f:=131);rfl;rfl;exact g3)|(apply r_slN1 (t:=t) (L:=u :: r);rfl;rfl;rfl)|(apply r_mkN (t:=(T.node k a b c d mn mx subs));rfl;((conv=>lhs;simp only [Nat.reduceAdd])<;>rfl))|(apply r_appD (K:=[(T.node k a b c d mn mx subs)]) (L:=u :: r);rfl;rfl;rfl;rfl;rfl;rfl;((conv=>lhs;simp only [Nat.reduceAdd])<;>rfl);(simp only [List.length_cons];omega))|(apply r_callS2 (f:=53) (pre:=[]) (pre':=[]) (post:=[]) (post':=[]) (L:=(T.node k a b c d mn mx subs) :: u :: r);rfl;rfl;rfl;rfl;(simp only [List.length_cons];omega);exact g4;rfl)|(apply r_ldL (v:=.agg [.i k,.d (.val (.int .u64 a)),.d (.val (.int .u64 b)),.d (.val (.int .u64 c)),.d (.val (.int .u64 d)),.i mn,.i mx,.d (.sl (encL subs) subs.length)]);rfl;rfl;rfl)|(apply r_ldL (v:=.agg [.i k2,.d (.val (.int .u64 a2)),.d (.val (.int .u64 b2)),.d (.val (.int .u64 c2)),.d (.val (.int .u64 d2)),.i mn2,.i mx2,.d (.sl (encL subs2) subs2.length)]);rfl;rfl;rfl)|(apply r_eql;rfl;rfl;(first|(apply dT;omega)|(apply dF;omega)|rfl))|(apply r_not;rfl;rfl)|(apply r_lenD;rfl)|(apply r_alloc;((conv=>lhs;simp only [Nat.reduceAdd])<;>rfl);rfl)|(apply r_stL;rfl;rfl;rfl;rfl;(first|rfl|(simp only [z_nil,z_add]<;>rfl));rfl;rfl)|(apply r_nilK)|(apply k_V;rfl)|(apply k_PL;rfl)|(apply k_S;rfl)|(apply k_nil)|(apply e_ret;rfl)|(apply w_seq)|(apply w_ops;((conv=>lhs;simp only [Nat.reduceAdd])<;>rfl))|(apply w_condT;rfl)|(apply w_condF;rfl)|(apply e_thenN)|(apply e_thenR)|(apply w_ret)|(apply w_skip))
      exact .data _ rfl
    | true =>
      rw [if_pos rfl,e4]
      refine b153 (by simp) (by simp) (w_init ?_)
      unfold x153
      repeat' (first|(apply r_mvV;rfl)|(apply r_mvS;rfl)|(apply r_p;apply ix_sub (j:=0);rfl;rfl;(simp))|(apply r_l;apply ld_node';exact hs;rfl)|(apply r_callA (f:=127) (ags:=[nodeA t,.d (.val (.int .u8 (x : Nat)))]);rfl;exact hna;exact g1)|(apply r_callA (f:=131);rfl;rfl;exact g3)|(apply r_callA (f:=153);rfl;rfl;exact g2)|(apply r_slN1 (t:=t) (L:=u :: r);rfl;rfl;rfl)|(apply r_mkN (t:=(T.node k a b c d mn mx subs));rfl;((conv=>lhs;simp only [Nat.reduceAdd])<;>rfl))|(apply r_mkN2 (t:=(T.node k2 a2 b2 c2 d2 mn2 mx2 subs2)) (u:=(T.node k3 a3 b3 c3 d3 mn3 mx3 subs3));rfl;rfl;((conv=>lhs;simp only [Nat.reduceAdd])<;>rfl))|(apply r_appD (K:=[(T.node k a b c d mn mx subs)]) (L:=u :: r);rfl;rfl;rfl;rfl;rfl;rfl;((conv=>lhs;simp only [Nat.reduceAdd])<;>rfl);(simp only [List.length_cons];omega))|(apply r_callS2 (f:=53) (pre:=[]) (pre':=[]) (post:=[]) (post':=[]) (L:=(T.node k a b c d mn mx subs) :: u :: r);rfl;rfl;rfl;rfl;(simp only [List.length_cons];omega);exact g4;rfl)|(apply r_callS2 (f:=54) (pre:=[]) (pre':=[]) (post:=[]) (post':=[]) (L:=[(T.node k2 a2 b2 c2 d2 mn2 mx2 subs2),(T.node k3 a3 b3 c3 d3 mn3 mx3 subs3)]);rfl;rfl;rfl;rfl;rfl;exact g5;rfl)|(apply r_ldL (v:=.agg [.i k,.d (.val (.int .u64 a)),.d (.val (.int .u64 b)),.d (.val (.int .u64 c)),.d (.val (.int .u64 d)),.i mn,.i mx,.d (.sl (encL subs) subs.length)]);rfl;rfl;rfl)|(apply r_ldL (v:=.agg [.i k2,.d (.val (.int .u64 a2)),.d (.val (.int .u64 b2)),.d (.val (.int .u64 c2)),.d (.val (.int .u64 d2)),.i mn2,.i mx2,.d (.sl (encL subs2) subs2.length)]);rfl;rfl;rfl)|(apply r_eql;rfl;rfl;(first|(apply dT;omega)|(apply dF;omega)|rfl))|(apply r_not;rfl;rfl)|(apply r_lenD;rfl)|(apply r_alloc;((conv=>lhs;simp only [Nat.reduceAdd])<;>rfl);rfl)|(apply r_stL;rfl;rfl;rfl;rfl;(first|rfl|(simp only [z_nil,z_add]<;>rfl));rfl;rfl)|(apply r_nilK)|(apply k_V;rfl)|(apply k_PL;rfl)|(apply k_S;rfl)|(apply k_nil)|(apply e_ret;rfl)|(apply w_seq)|(apply w_ops;((conv=>lhs;simp only [Nat.reduceAdd])<;>rfl))|(apply w_condF;rfl)|(apply e_thenN)|(apply w_ret)|(apply w_skip))
      exact .data _ rfl
end Go.Sv
namespace Go.Sv
open Go Go.Proofs
set_option maxRecDepth 100000
set_option maxHeartbeats 4000000
attribute [local irreducible] W E R KP thenK blockK retK Good xwp aRun
theorem by127_of {x : Nat} (hx : x < 256) (t : T) (hok : okT t) (hsf : sfT t) (hc : t.cnt≤4000)
    (hby : ∀ i (h : i < t.subs.length),Good Try.prog 127 [nodeA t.subs[i],.d (.val (.int .u8 (x : Nat)))] none (nodeA (byT x t.subs[i])) none none)
    (hrow : Good Try.prog 153 [.d (.sl (encL t.subs) t.subs.length),.d (.val (.int .u8 (x : Nat)))] none (nodeA (rowD t.subs (byL x t.subs))) none none) :
    Good Try.prog 127 [nodeA t,.d (.val (.int .u8 (x : Nat)))] none (nodeA (byT x t)) none none:=by
  obtain ⟨k,a,b,c,d,mn,mx,subs⟩:=t
  have hp:=okT_plain hok
  have hk:=(plainT_kind hp).1
  have hR:=okT_R hok
  have hoks:=okT_subs hok
  have hsfs : sfL subs:=sfT_subs hsf
  obtain ⟨ha,hb,hcc,hd⟩:=okT_S hok
  simp only [T.subs] at hby hrow
  rw [T.cnt] at hc
  have h54 : Good Try.prog 54 [.d (.sl [] 0)] none (.agg [.i 2,.d (.val (.int .u64 0)),.d (.val (.int .u64 0)),.d (.val (.int .u64 0)),.d (.val (.int .u64 0)),.i 0,.i 0,.d (.sl [] 0)]) none none:=alt54_good [] (by simp [cntL]) (fun t ht=>by simp [flatL] at ht)
  have enn : nodeA noneT=.agg [.i 2,.d (.val (.int .u64 0)),.d (.val (.int .u64 0)),.d (.val (.int .u64 0)),.d (.val (.int .u64 0)),.i 0,.i 0,.d (.sl [] 0)]:=rfl
  have e0 : nodeA (T.node k a b c d mn mx subs)=.agg [.i k,.d (.val (.int .u64 a)),.d (.val (.int .u64 b)),.d (.val (.int .u64 c)),.d (.val (.int .u64 d)),.i mn,.i mx,.d (.sl (encL subs) subs.length)]:=rfl
  rw [e0]
  rcases hk with rfl | rfl | rfl | rfl | rfl
  · rw [show byT x (.node 1 a b c d mn mx subs)=noneT by simp [byT],enn]
    clear hby hrow hoks hsfs hok hsf
    refine b127 (by simp) (by simp) (w_init ?_)
    unfold x127
    repeat' (first|(apply r_mvV;rfl)|(apply r_faddL;rfl)|(apply r_call (f:=54) (bs:=[.d (.sl [] 0)]) (us:=[]);rfl;rfl;exact h54;rfl)|(apply r_ldL;rfl;rfl;rfl)|(apply r_eql;rfl;rfl;(first|(apply dT;omega)|(apply dF;omega)|rfl))|(apply r_alloc;((conv=>lhs;simp only [Nat.reduceAdd])<;>rfl);rfl)|(apply r_box;((conv=>lhs;simp only [Nat.reduceAdd])<;>rfl);rfl;rfl;rfl)|(apply r_stL;rfl;rfl;rfl;rfl;(first|rfl|(simp only [z_nil,z_add]<;>rfl));rfl;rfl)|(apply r_nilK)|(apply k_V;rfl)|(apply k_PL;rfl)|(apply k_nil)|(apply e_ret;rfl)|(apply w_seq)|(apply w_ops;((conv=>lhs;simp only [Nat.reduceAdd])<;>rfl))|(apply w_condF;rfl)|(apply e_thenN)|(apply w_block)|(apply e_blkN)|(apply w_ret)|(apply w_skip))
    exact .data _ rfl
  · have h152:=has152_good (cs:=encN (.node 2 a b c d mn mx subs)) (off:=1) (NodeAt.set (NodeAt.self _)) ha hb hcc hd hx
    have h53 : Good Try.prog 53 [.d (.sl [] 0)] none (.agg [.i 1,.d (.val (.int .u64 0)),.d (.val (.int .u64 0)),.d (.val (.int .u64 0)),.d (.val (.int .u64 0)),.i 0,.i 0,.d (.sl [] 0)]) none none:=cat53_good [] (by simp [cntL])
    have ebt : byT x (.node 2 a b c d mn mx subs)=if inG a b c d x=true then emptyT else noneT:=by simp [byT]
    have enm : nodeA emptyT=.agg [.i 1,.d (.val (.int .u64 0)),.d (.val (.int .u64 0)),.d (.val (.int .u64 0)),.d (.val (.int .u64 0)),.i 0,.i 0,.d (.sl [] 0)]:=rfl
    rw [ebt]
    clear hby hrow hoks hsfs hok hsf ebt
    rcases Bool.eq_false_or_eq_true (inG a b c d x) with hq | hq
    · rw [hq] at h152
      rw [hq,if_pos rfl,enm]
      refine b127 (by simp) (by simp) (w_init ?_)
      unfold x127
      repeat' (first|(apply r_mvV;rfl)|(apply r_faddL;rfl)|(apply r_call (f:=152) (bs:=[.d (.ptr (encN (.node 2 a b c d mn mx subs)) 1),.d (.val (.int .u8 (x : Nat)))]) (us:=[1]);rfl;rfl;exact h152;rfl)|(apply r_call (f:=53) (bs:=[.d (.sl [] 0)]) (us:=[]);rfl;rfl;exact h53;rfl)|(apply r_ldL;rfl;rfl;rfl)|(apply r_eql;rfl;rfl;(first|(apply dT;omega)|(apply dF;omega)|rfl))|(apply r_alloc;((conv=>lhs;simp only [Nat.reduceAdd])<;>rfl);rfl)|(apply r_box;((conv=>lhs;simp only [Nat.reduceAdd])<;>rfl);rfl;rfl;rfl)|(apply r_stL;rfl;rfl;rfl;rfl;(first|rfl|(simp only [z_nil,z_add]<;>rfl));rfl;rfl)|(apply r_nilK)|(apply k_V;rfl)|(apply k_PL;rfl)|(apply k_nil)|(apply e_ret;rfl)|(apply w_seq)|(apply w_ops;((conv=>lhs;simp only [Nat.reduceAdd])<;>rfl))|(apply w_condT;rfl)|(apply e_thenN)|(apply w_block)|(apply e_thenR)|(apply e_blkR)|(apply w_ret))
      exact .data _ rfl
    · rw [hq] at h152
      rw [hq,if_neg (by simp),enn]
      refine b127 (by simp) (by simp) (w_init ?_)
      unfold x127
      repeat' (first|(apply r_mvV;rfl)|(apply r_faddL;rfl)|(apply r_call (f:=152) (bs:=[.d (.ptr (encN (.node 2 a b c d mn mx subs)) 1),.d (.val (.int .u8 (x : Nat)))]) (us:=[1]);rfl;rfl;exact h152;rfl)|(apply r_call (f:=54) (bs:=[.d (.sl [] 0)]) (us:=[]);rfl;rfl;exact h54;rfl)|(apply r_ldL;rfl;rfl;rfl)|(apply r_eql;rfl;rfl;(first|(apply dT;omega)|(apply dF;omega)|rfl))|(apply r_alloc;((conv=>lhs;simp only [Nat.reduceAdd])<;>rfl);rfl)|(apply r_box;((conv=>lhs;simp only [Nat.reduceAdd])<;>rfl);rfl;rfl;rfl)|(apply r_stL;rfl;rfl;rfl;rfl;(first|rfl|(simp only [z_nil,z_add]<;>rfl));rfl;rfl)|(apply r_nilK)|(apply k_V;rfl)|(apply k_PL;rfl)|(apply k_nil)|(apply e_ret;rfl)|(apply w_seq)|(apply w_ops;((conv=>lhs;simp only [Nat.reduceAdd])<;>rfl))|(apply w_condT;rfl)|(apply w_condF;rfl)|(apply e_thenN)|(apply w_block)|(apply e_blkN)|(apply w_ret)|(apply w_skip))
      exact .data _ rfl
  · rw [show byT x (.node 3 a b c d mn mx subs)=rowD subs (byL x subs) by simp [byT]]
    clear hby hoks hsfs hok hsf h54
    generalize rowD subs (byL x subs)=v at hrow ⊢
    obtain ⟨k2,a2,b2,c2,d2,mn2,mx2,subs2⟩:=v
    have e2 : nodeA (T.node k2 a2 b2 c2 d2 mn2 mx2 subs2)=.agg [.i k2,.d (.val (.int .u64 a2)),.d (.val (.int .u64 b2)),.d (.val (.int .u64 c2)),.d (.val (.int .u64 d2)),.i mn2,.i mx2,.d (.sl (encL subs2) subs2.length)]:=rfl
    rw [e2] at hrow ⊢
    refine b127 (by simp) (by simp) (w_init ?_)
    unfold x127
    repeat' (first|(apply r_mvV;rfl)|(apply r_faddL;rfl)|(apply r_callA (f:=153);rfl;rfl;exact hrow)|(apply r_ldL;rfl;rfl;rfl)|(apply r_eql;rfl;rfl;(first|(apply dT;omega)|(apply dF;omega)|rfl))|(apply r_alloc;((conv=>lhs;simp only [Nat.reduceAdd])<;>rfl);rfl)|(apply r_box;((conv=>lhs;simp only [Nat.reduceAdd])<;>rfl);rfl;rfl;rfl)|(apply r_stL;rfl;rfl;rfl;rfl;(first|rfl|(simp only [z_nil,z_add]<;>rfl));rfl;rfl)|(apply r_nilK)|(apply k_V;rfl)|(apply k_PL;rfl)|(apply k_nil)|(apply e_ret;rfl)|(apply w_seq)|(apply w_ops;((conv=>lhs;simp only [Nat.reduceAdd])<;>rfl))|(apply w_condT;rfl)|(apply w_condF;rfl)|(apply e_thenN)|(apply w_block)|(apply e_thenR)|(apply e_blkR)|(apply w_ret))
    exact .data _ rfl
  · have h2 : 2≤subs.length:=(plainT_34 (.inr rfl) hp).2.2.2.2.2.2
    rw [show byT x (.node 4 a b c d mn mx subs)=altS (byL x subs) by simp [byT]]
    obtain ⟨d1,d2,_,d4⟩:=altD_L x subs _ (byL_ok x subs hoks hsfs)
    have hq:=sq_le (c:=cntL subs) (by omega)
    have g5:=alt54_good (byL x subs) (by omega) (okS_flat d1)
    have hlen : subs.length≤4000:=by have:=cntL_len subs;omega
    have hbl:=byL_len x subs
    have hbt : ∀ i,(byL x (subs.take i)).length=(subs.take i).length:=fun i=>byL_len x _
    have hst : ∀ i (h : i < subs.length),byL x (subs.take (i + 1))=byL x (subs.take i)++[byT x subs[i]]:=fun i h=>by
      rw [List.take_succ_eq_append_getElem h,byL_map,byL_map,List.map_append];rfl
    rw [hbl] at g5
    clear hrow hoks hsfs hok hsf h54 d1 d2 d4 hq hc hp
    generalize altS (byL x subs)=v at g5 ⊢
    obtain ⟨k2,a2,b2,c2,d2,mn2,mx2,subs2⟩:=v
    have e2 : nodeA (T.node k2 a2 b2 c2 d2 mn2 mx2 subs2)=.agg [.i k2,.d (.val (.int .u64 a2)),.d (.val (.int .u64 b2)),.d (.val (.int .u64 c2)),.d (.val (.int .u64 d2)),.i mn2,.i mx2,.d (.sl (encL subs2) subs2.length)]:=rfl
    rw [e2] at g5 ⊢
    refine b127 (by simp) (by simp) (w_init ?_)
    unfold x127
    repeat' (first|(apply r_mvV;rfl)|(apply r_faddL;rfl)|(apply r_ldL;rfl;rfl;rfl)|(apply r_eql;rfl;rfl;(first|(apply dT;omega)|(apply dF;omega)|rfl))|(apply r_lenD;rfl)|(apply r_alloc;((conv=>lhs;simp only [Nat.reduceAdd])<;>rfl);rfl)|(apply r_box;((conv=>lhs;simp only [Nat.reduceAdd])<;>rfl);rfl;rfl;rfl)|(apply r_nilK)|(apply k_V;rfl)|(apply k_PL;rfl)|(apply k_S;rfl)|(apply k_nil)|(apply w_seq)|(apply w_ops;((conv=>lhs;simp only [Nat.reduceAdd])<;>rfl))|(apply w_condT;rfl)|(apply w_condF;rfl)|(apply e_thenN)|(apply w_block))
    apply w_loopI (S:=fun i : Nat=>⟨((((((Fr.nil.put 1 (.d (.val (.int .u8 (x : Nat))))).put 4 (.ptrL 2 0)).put 5 (.slL 50 0 i 8)).put 27 (.d (.sl (encL subs) subs.length))).put 28 (.i subs.length)).put 29 (.i i)),rowsOf [(2,zeroA zsN),(50,(encL (byL x (subs.take i))).map AV.d)],Frz.buts 100 [2,50],100⟩) (m:=fun i=>subs.length - i) (I:=fun i=>i≤subs.length) (i0:=0)
    · exact Nat.zero_le _
    · refine wkM [] [50] rfl ?_ ?_ rfl ?_
      · intro p hp
        simp only [List.mem_cons,List.not_mem_nil,or_false] at hp
        rcases hp with rfl | rfl
        · exact ⟨by omega,.inr ⟨rfl,_,rfl,.data rfl⟩⟩
        · exact ⟨by omega,.inl ⟨rfl,rfl⟩⟩
      · intro q hq;simp only [List.mem_cons,List.not_mem_nil,or_false] at hq;rcases hq with rfl | rfl<;>rfl
      · repeat' (first|exact FWk.nil|(apply FWk.i;rfl;(first|rfl|omega|(simp;done)))|(apply FWk.ptr;rfl;rfl;rfl;omega;rfl)|(apply FWk.d;rfl;rfl)|(apply FWk.slN;rfl;omega;rfl))
    intro i K hi hK
    dsimp only
    rcases Nat.lt_or_ge i subs.length with hlt | hge
    · have hg:=hby i hlt
      have hs:=NodeAt.sub hlt
      have hst1:=hst i hlt
      have hb1:=hbt i
      rw [List.length_take,Nat.min_eq_left hi] at hb1
      have hK':=hK (i + 1)
      rw [hst1] at hK'
      clear hst hbt hst1 hby hK
      generalize byL x (subs.take i)=K1 at hb1 hK'
      generalize byT x subs[i]=u at hg hK'
      generalize subs[i]=v at hg hs
      obtain ⟨k3,a3,b3,c3,d3,mn3,mx3,subs3⟩:=v
      obtain ⟨k4,a4,b4,c4,d4,mn4,mx4,subs4⟩:=u
      have e3 : nodeA (T.node k3 a3 b3 c3 d3 mn3 mx3 subs3)=.agg [.i k3,.d (.val (.int .u64 a3)),.d (.val (.int .u64 b3)),.d (.val (.int .u64 c3)),.d (.val (.int .u64 d3)),.i mn3,.i mx3,.d (.sl (encL subs3) subs3.length)]:=rfl
      have e4 : nodeA (T.node k4 a4 b4 c4 d4 mn4 mx4 subs4)=.agg [.i k4,.d (.val (.int .u64 a4)),.d (.val (.int .u64 b4)),.d (.val (.int .u64 c4)),.d (.val (.int .u64 d4)),.i mn4,.i mx4,.d (.sl (encL subs4) subs4.length)]:=rfl
      rw [e3,e4] at hg
      repeat' (first|(apply r_mvV;rfl)|(apply r_mvSL;rfl)|(apply r_p;apply ix_sub;rfl;rfl;omega)|(apply r_l (v:=.agg [.i k3,.d (.val (.int .u64 a3)),.d (.val (.int .u64 b3)),.d (.val (.int .u64 c3)),.d (.val (.int .u64 d3)),.i mn3,.i mx3,.d (.sl (encL subs3) subs3.length)]);exact ld_node hs rfl)|(apply r_ldL (v:=.agg [.i k3,.d (.val (.int .u64 a3)),.d (.val (.int .u64 b3)),.d (.val (.int .u64 c3)),.d (.val (.int .u64 d3)),.i mn3,.i mx3,.d (.sl (encL subs3) subs3.length)]);rfl;rfl;rfl)|(apply r_callA (f:=127);rfl;rfl;exact hg)|(apply r_mkN (t:=(T.node k4 a4 b4 c4 d4 mn4 mx4 subs4));rfl;((conv=>lhs;simp only [Nat.reduceAdd])<;>rfl))|(apply r_appE (K:=K1) (L:=[(T.node k4 a4 b4 c4 d4 mn4 mx4 subs4)]);rfl;rfl;rfl;rfl;exact hb1;rfl;rfl;((conv=>lhs;simp only [Nat.reduceAdd])<;>rfl);omega)|(apply r_lss;rfl;rfl;(first|(apply dT;omega)|(apply dF;omega)|rfl))|(apply r_add;rfl;rfl;rfl;omega)|(apply r_alloc;((conv=>lhs;simp only [Nat.reduceAdd])<;>rfl);rfl)|(apply r_stL;rfl;rfl;rfl;rfl;(first|rfl|(simp only [z_nil,z_add]<;>rfl));rfl;rfl)|(apply r_nilK)|(apply k_V;rfl)|(apply k_PL;rfl)|(apply k_S;rfl)|(apply k_SL;rfl)|(apply k_nil)|(apply w_seq)|(apply w_ops;((conv=>lhs;simp only [Nat.reduceAdd])<;>rfl))|(apply w_condT;rfl)|(apply e_thenN)|(apply w_block)|(apply e_blkN)|(apply w_skip))
      apply e_thenK
      apply hK'
      · omega
      · omega
      · refine wkM [(50,110)] [] rfl ?_ ?_ rfl ?_
        · intro p hp
          simp only [List.mem_cons,List.not_mem_nil,or_false] at hp
          rcases hp with rfl | rfl
          · exact ⟨by omega,.inr ⟨rfl,_,rfl,.data rfl⟩⟩
          · exact ⟨by omega,.inr ⟨rfl,_,rfl,.data (isD_encL _)⟩⟩
        · intro q hq;simp only [List.mem_cons,List.not_mem_nil,or_false] at hq;rcases hq with rfl | rfl<;>rfl
        · repeat' (first|exact FWk.nil|(apply FWk.i;rfl;(first|rfl|omega|(simp;done)))|(apply FWk.sl;rfl;rfl;rfl;rfl;omega;rfl)|(apply FWk.ptr;rfl;rfl;rfl;omega;rfl)|(apply FWk.d;rfl;rfl))
    · rw [List.take_of_length_le hge]
      have ei : i=subs.length:=by omega
      subst ei
      match subs,h2,hbl,g5 with
      | y :: z,_,hbl,g5 =>
      repeat' (first|(apply r_mvSL;rfl)|(apply r_callS2 (f:=54) (pre:=[]) (pre':=[]) (post:=[]) (post':=[]) (L:=byL x (y :: z));rfl;rfl;rfl;rfl;exact hbl;exact g5;rfl)|(apply r_lss;rfl;rfl;(first|(apply dT;omega)|(apply dF;omega)|rfl))|(apply r_stL;rfl;rfl;rfl;rfl;(first|rfl|(simp only [z_nil,z_add]<;>rfl));rfl;rfl)|(apply r_nilK)|(apply k_V;rfl)|(apply k_PL;rfl)|(apply k_S;rfl)|(apply k_SL;rfl)|(apply k_nil)|(apply e_ret;rfl)|(apply w_seq)|(apply w_ops;((conv=>lhs;simp only [Nat.reduceAdd])<;>rfl))|(apply w_condF;rfl)|(apply e_thenN)|(apply e_thenR)|(apply e_thenX)|(apply e_blkR)|(apply e_blkE)|(apply w_exit)|(apply w_ret))
      exact .data _ rfl
  · obtain ⟨u,rfl⟩:=plainT_5 hp
    have hr:=hR rfl
    by_cases hm : mx=0
    · rw [show byT x (.node 5 a b c d mn mx [u])=noneT by simp [byT,hm],enn]
      clear hby hrow hoks hsfs hok hsf
      subst hm
      refine b127 (by simp) (by simp) (w_init ?_)
      unfold x127
      repeat' (first|(apply r_mvV;rfl)|(apply r_faddL;rfl)|(apply r_call (f:=54) (bs:=[.d (.sl [] 0)]) (us:=[]);rfl;rfl;exact h54;rfl)|(apply r_ldL;rfl;rfl;rfl)|(apply r_eql;rfl;rfl;(first|(apply dT;omega)|(apply dF;omega)|rfl))|(apply r_alloc;((conv=>lhs;simp only [Nat.reduceAdd])<;>rfl);rfl)|(apply r_box;((conv=>lhs;simp only [Nat.reduceAdd])<;>rfl);rfl;rfl;rfl)|(apply r_stL;rfl;rfl;rfl;rfl;(first|rfl|(simp only [z_nil,z_add]<;>rfl));rfl;rfl)|(apply r_nilK)|(apply k_V;rfl)|(apply k_PL;rfl)|(apply k_nil)|(apply e_ret;rfl)|(apply w_seq)|(apply w_ops;((conv=>lhs;simp only [Nat.reduceAdd])<;>rfl))|(apply w_condT;rfl)|(apply w_condF;rfl)|(apply e_thenN)|(apply w_block)|(apply e_thenX)|(apply e_blkE)|(apply w_exit)|(apply w_ret))
      exact .data _ rfl
    have g1:=hby 0 (by simp)
    simp only [List.getElem_cons_zero] at g1
    simp only [okL] at hoks
    simp only [sfL] at hsfs
    simp only [cntL] at hc
    obtain ⟨d1,d2,_,d4⟩:=byT_ok x u hoks.1 hsfs.1
    have hq:=sq_le (c:=u.cnt) (by omega)
    have hs : NodeAt (encL [u]) (0 * 8) u:=NodeAt.sub (l:=[u]) (i:=0) (by simp)
    by_cases hmp : 0 < mx
    · rw [show byT x (.node 5 a b c d mn mx [u])=catS [byT x u,repS u (max (mn - 1) 0) (mx - 1)] by simp [byT,hm,byL,repD,hmp]]
      have g2:=rep55_good 4000 u (by omega) (by omega) (max (mn - 1) 0) (mx - 1) (by unfold inW;omega) (by unfold inW;omega)
      have hcr:=cnt_rep u (max (mn - 1) 0) (mx - 1)
      have g3:=cat53_good [byT x u,repS u (max (mn - 1) 0) (mx - 1)] (by simp only [cntL];omega)
      clear hby hrow hoks hsfs hok hsf hc d1 d2 d4 hq hcr hp hR
      generalize catS [byT x u,repS u (max (mn - 1) 0) (mx - 1)]=v3 at g3 ⊢
      generalize repS u (max (mn - 1) 0) (mx - 1)=v2 at g2 g3
      generalize byT x u=v1 at g1 g3
      obtain ⟨k5,a5,b5,c5,d5,mn5,mx5,subs5⟩:=u
      obtain ⟨k2,a2,b2,c2,d2,mn2,mx2,subs2⟩:=v1
      obtain ⟨k3,a3,b3,c3,d3,mn3,mx3,subs3⟩:=v2
      obtain ⟨k4,a4,b4,c4,d4,mn4,mx4,subs4⟩:=v3
      have e2 : nodeA (T.node k2 a2 b2 c2 d2 mn2 mx2 subs2)=.agg [.i k2,.d (.val (.int .u64 a2)),.d (.val (.int .u64 b2)),.d (.val (.int .u64 c2)),.d (.val (.int .u64 d2)),.i mn2,.i mx2,.d (.sl (encL subs2) subs2.length)]:=rfl
      have e3 : nodeA (T.node k3 a3 b3 c3 d3 mn3 mx3 subs3)=.agg [.i k3,.d (.val (.int .u64 a3)),.d (.val (.int .u64 b3)),.d (.val (.int .u64 c3)),.d (.val (.int .u64 d3)),.i mn3,.i mx3,.d (.sl (encL subs3) subs3.length)]:=rfl
      have e4 : nodeA (T.node k4 a4 b4 c4 d4 mn4 mx4 subs4)=.agg [.i k4,.d (.val (.int .u64 a4)),.d (.val (.int .u64 b4)),.d (.val (.int .u64 c4)),.d (.val (.int .u64 d4)),.i mn4,.i mx4,.d (.sl (encL subs4) subs4.length)]:=rfl
      have e5 : nodeA (T.node k5 a5 b5 c5 d5 mn5 mx5 subs5)=.agg [.i k5,.d (.val (.int .u64 a5)),.d (.val (.int .u64 b5)),.d (.val (.int .u64 c5)),.d (.val (.int .u64 d5)),.i mn5,.i mx5,.d (.sl (encL subs5) subs5.length)]:=rfl
      rw [e5] at g1 g2
      rw [e2] at g1
      rw [e3] at g2
      rw [e4] at g3 ⊢
      refine b127 (by simp) (by simp) (w_init ?_)
      unfold x127
      repeat' (first|(apply r_mvV;rfl)|(apply r_faddL;rfl)|(apply r_l (v:=.agg [.i k5,.d (.val (.int .u64 a5)),.d (.val (.int .u64 b5)),.d (.val (.int .u64 c5)),.d (.val (.int .u64 d5)),.i mn5,.i mx5,.d (.sl (encL subs5) subs5.length)]);exact ld_node hs rfl)|(apply r_p;apply ix_sub (j:=0);rfl;rfl;(simp))|(apply r_ldL (v:=.agg [.i k5,.d (.val (.int .u64 a5)),.d (.val (.int .u64 b5)),.d (.val (.int .u64 c5)),.d (.val (.int .u64 d5)),.i mn5,.i mx5,.d (.sl (encL subs5) subs5.length)]);rfl;rfl;rfl)|(apply r_callA (f:=127);rfl;rfl;exact g1)|(apply r_callA (f:=55);rfl;rfl;exact g2)|(apply r_mkN2 (t:=(T.node k2 a2 b2 c2 d2 mn2 mx2 subs2)) (u:=(T.node k3 a3 b3 c3 d3 mn3 mx3 subs3));rfl;rfl;((conv=>lhs;simp only [Nat.reduceAdd])<;>rfl))|(apply r_callS2 (f:=53) (pre:=[]) (pre':=[]) (post:=[]) (post':=[]) (L:=[(T.node k2 a2 b2 c2 d2 mn2 mx2 subs2),(T.node k3 a3 b3 c3 d3 mn3 mx3 subs3)]);rfl;rfl;rfl;rfl;rfl;exact g3;rfl)|(apply r_ldL;rfl;rfl;rfl)|(apply r_eql;rfl;rfl;(first|(apply dT;omega)|(apply dF;omega)|rfl))|(apply r_gtr;rfl;rfl;(first|(apply dT;omega)|(apply dF;omega)|rfl))|(apply r_sub;rfl;rfl;rfl;omega)|(apply r_max2;rfl;rfl;rfl)|(apply r_alloc;((conv=>lhs;simp only [Nat.reduceAdd])<;>rfl);rfl)|(apply r_box;((conv=>lhs;simp only [Nat.reduceAdd])<;>rfl);rfl;rfl;rfl)|(apply r_stL;rfl;rfl;rfl;rfl;(first|rfl|(simp only [z_nil,z_add]<;>rfl));rfl;rfl)|(apply r_nilK)|(apply k_V;rfl)|(apply k_PL;rfl)|(apply k_nil)|(apply e_ret;rfl)|(apply w_seq)|(apply w_ops;((conv=>lhs;simp only [Nat.reduceAdd])<;>rfl))|(apply w_condT;rfl)|(apply w_condF;rfl)|(apply e_thenN)|(apply w_block)|(apply e_thenR)|(apply e_blkR)|(apply w_ret)|(apply w_skip))
      exact .data _ rfl
    · rw [show byT x (.node 5 a b c d mn mx [u])=catS [byT x u,repS u (max (mn - 1) 0) mx] by simp [byT,hm,byL,repD,hmp]]
      have g2:=rep55_good 4000 u (by omega) (by omega) (max (mn - 1) 0) mx (by unfold inW;omega) (by unfold inW;omega)
      have hcr:=cnt_rep u (max (mn - 1) 0) mx
      have g3:=cat53_good [byT x u,repS u (max (mn - 1) 0) mx] (by simp only [cntL];omega)
      clear hby hrow hoks hsfs hok hsf hc d1 d2 d4 hq hcr hp hR
      generalize catS [byT x u,repS u (max (mn - 1) 0) mx]=v3 at g3 ⊢
      generalize repS u (max (mn - 1) 0) mx=v2 at g2 g3
      generalize byT x u=v1 at g1 g3
      obtain ⟨k5,a5,b5,c5,d5,mn5,mx5,subs5⟩:=u
      obtain ⟨k2,a2,b2,c2,d2,mn2,mx2,subs2⟩:=v1
      obtain ⟨k3,a3,b3,c3,d3,mn3,mx3,subs3⟩:=v2
      obtain ⟨k4,a4,b4,c4,d4,mn4,mx4,subs4⟩:=v3
      have e2 : nodeA (T.node k2 a2 b2 c2 d2 mn2 mx2 subs2)=.agg [.i k2,.d (.val (.int .u64 a2)),.d (.val (.int .u64 b2)),.d (.val (.int .u64 c2)),.d (.val (.int .u64 d2)),.i mn2,.i mx2,.d (.sl (encL subs2) subs2.length)]:=rfl
      have e3 : nodeA (T.node k3 a3 b3 c3 d3 mn3 mx3 subs3)=.agg [.i k3,.d (.val (.int .u64 a3)),.d (.val (.int .u64 b3)),.d (.val (.int .u64 c3)),.d (.val (.int .u64 d3)),.i mn3,.i mx3,.d (.sl (encL subs3) subs3.length)]:=rfl
      have e4 : nodeA (T.node k4 a4 b4 c4 d4 mn4 mx4 subs4)=.agg [.i k4,.d (.val (.int .u64 a4)),.d (.val (.int .u64 b4)),.d (.val (.int .u64 c4)),.d (.val (.int .u64 d4)),.i mn4,.i mx4,.d (.sl (encL subs4) subs4.length)]:=rfl
      have e5 : nodeA (T.node k5 a5 b5 c5 d5 mn5 mx5 subs5)=.agg [.i k5,.d (.val (.int .u64 a5)),.d (.val (.int .u64 b5)),.d (.val (.int .u64 c5)),.d (.val (.int .u64 d5)),.i mn5,.i mx5,.d (.sl (encL subs5) subs5.length)]:=rfl
      rw [e5] at g1 g2
      rw [e2] at g1
      rw [e3] at g2
      rw [e4] at g3 ⊢
      refine b127 (by simp) (by simp) (w_init ?_)
      unfold x127
      repeat' (first|(apply r_mvV;rfl)|(apply r_faddL;rfl)|(apply r_l (v:=.agg [.i k5,.d (.val (.int .u64 a5)),.d (.val (.int .u64 b5)),.d (.val (.int .u64 c5)),.d (.val (.int .u64 d5)),.i mn5,.i mx5,.d (.sl (encL subs5) subs5.length)]);exact ld_node hs rfl)|(apply r_p;apply ix_sub (j:=0);rfl;rfl;(simp))|(apply r_ldL (v:=.agg [.i k5,.d (.val (.int .u64 a5)),.d (.val (.int .u64 b5)),.d (.val (.int .u64 c5)),.d (.val (.int .u64 d5)),.i mn5,.i mx5,.d (.sl (encL subs5) subs5.length)]);rfl;rfl;rfl)|(apply r_callA (f:=127);rfl;rfl;exact g1)|(apply r_callA (f:=55);rfl;rfl;exact g2)|(apply r_mkN2 (t:=(T.node k2 a2 b2 c2 d2 mn2 mx2 subs2)) (u:=(T.node k3 a3 b3 c3 d3 mn3 mx3 subs3));rfl;rfl;((conv=>lhs;simp only [Nat.reduceAdd])<;>rfl))|(apply r_callS2 (f:=53) (pre:=[]) (pre':=[]) (post:=[]) (post':=[]) (L:=[(T.node k2 a2 b2 c2 d2 mn2 mx2 subs2),(T.node k3 a3 b3 c3 d3 mn3 mx3 subs3)]);rfl;rfl;rfl;rfl;rfl;exact g3;rfl)|(apply r_ldL;rfl;rfl;rfl)|(apply r_eql;rfl;rfl;(first|(apply dT;omega)|(apply dF;omega)|rfl))|(apply r_gtr;rfl;rfl;(first|(apply dT;omega)|(apply dF;omega)|rfl))|(apply r_sub;rfl;rfl;rfl;omega)|(apply r_max2;rfl;rfl;rfl)|(apply r_alloc;((conv=>lhs;simp only [Nat.reduceAdd])<;>rfl);rfl)|(apply r_box;((conv=>lhs;simp only [Nat.reduceAdd])<;>rfl);rfl;rfl;rfl)|(apply r_stL;rfl;rfl;rfl;rfl;(first|rfl|(simp only [z_nil,z_add]<;>rfl));rfl;rfl)|(apply r_nilK)|(apply k_V;rfl)|(apply k_PL;rfl)|(apply k_nil)|(apply e_ret;rfl)|(apply w_seq)|(apply w_ops;((conv=>lhs;simp only [Nat.reduceAdd])<;>rfl))|(apply w_condT;rfl)|(apply w_condF;rfl)|(apply e_thenN)|(apply w_block)|(apply e_thenR)|(apply e_blkR)|(apply w_ret)|(apply w_skip))
      exact .data _ rfl
theorem by_row {x : Nat} (hx : x < 256) : ∀ n : Nat,n≤4000→(∀ t : T,okT t→sfT t→t.cnt≤n→Good Try.prog 127 [nodeA t,.d (.val (.int .u8 (x : Nat)))] none (nodeA (byT x t)) none none)∧(∀ l : List T,okL l→sfL l→cntL l≤n→Good Try.prog 153 [.d (.sl (encL l) l.length),.d (.val (.int .u8 (x : Nat)))] none (nodeA (rowD l (byL x l))) none none):=by
  intro n
  induction n with
  | zero =>
    intro _
    refine ⟨fun t _ _ h=>absurd (cnt_pos t) (by omega),fun l hok hsf hc=>?_⟩
    match l,hok,hsf,hc with
    | [],hok,hsf,_=>exact row153_of [] hok hsf (by simp [cntL]) (fun t r h=>by cases h) (fun t r h=>by cases h)
    | t :: r,_,_,hc=>exact absurd (cnt_pos t) (by rw [cntL] at hc;omega)
  | succ n ih =>
    intro hn
    obtain ⟨i1,i2⟩:=ih (by omega)
    have hb : ∀ t : T,okT t→sfT t→t.cnt≤n + 1→Good Try.prog 127 [nodeA t,.d (.val (.int .u8 (x : Nat)))] none (nodeA (byT x t)) none none:=by
      intro t hok hsf hc
      have h1:=okT_subs' hok
      have h2:=sfT_subs hsf
      have h3 : cntL t.subs≤n:=by cases t;simp only [T.subs,T.cnt] at hc ⊢;omega
      refine by127_of hx t hok hsf (by omega) (fun i h=>?_) (i2 _ h1 h2 h3)
      refine i1 _ (okL_get _ i h h1) ((sfL_iff _).1 h2 _ (List.getElem_mem h)) ?_
      have:=cntL_get t.subs i h
      omega
    refine ⟨hb,fun l hok hsf hc=>?_⟩
    match l,hok,hsf,hc with
    | [],hok,hsf,_=>exact row153_of [] hok hsf (by simp [cntL]) (fun t r h=>by cases h) (fun t r h=>by cases h)
    | t :: r,hok,hsf,hc =>
      have hct:=cnt_pos t
      simp only [cntL] at hc
      refine row153_of (t :: r) hok hsf (by simp only [cntL];omega) (fun t' r' h=>?_) (fun t' r' h=>?_)
      · injection h with h1 h2
        subst h1
        exact hb t hok.1 hsf.1 (by omega)
      · injection h with h1 h2
        subst h2
        exact i2 r hok.2 hsf.2 (by omega)
end Go.Sv
namespace Go.Sv
open Go Go.Proofs
def x51 : XC:=(.seq (.ops 2 [ (0,⟨some 1,none,.box (.t 0)⟩),(1,⟨some 2,none,.mv (.k (.d (.val (.bool false))))⟩)] (some [1])) (.seq (.seq (.ops 2 [ (0,⟨some 5,none,.fadd 0 (.t 1)⟩),(1,⟨some 6,none,.load none (.t 5)⟩)] (some [1,6])) (.block 0 (.seq (.ops 2 [ (0,⟨some 8,none,.arith .eql (.t 6) (.k (.d (.val (.int .i64 2))))⟩),(1,⟨some 7,none,.mv (.t 8)⟩)] (some [1,6,7])) (.cond (.t 7) (.seq (.ops 5 [ (0,⟨some 9,none,.fadd 1 (.t 1)⟩),(1,⟨some 10,none,.load (some 4) (.t 9)⟩),(2,⟨some 11,none,.build [(.int .u64 0),(.int .u64 0),(.int .u64 0),(.int .u64 0)] []⟩),(3,⟨some 12,none,.eqAgg 4 false (.t 10) (.t 11)⟩),(4,⟨some 2,none,.mv (.t 12)⟩)] (some [2])) .ret) (.seq (.ops 2 [ (0,⟨some 14,none,.arith .eql (.t 6) (.k (.d (.val (.int .i64 3))))⟩),(1,⟨some 13,none,.mv (.t 14)⟩)] (some [1,6,13])) (.cond (.t 13) (.seq (.ops 1 [ (0,⟨some 3,none,.mv (.k (.d (.val (.int .i64 0))))⟩)] (some [1,3])) (.block 1 (.loop (.seq (.seq (.ops 5 [ (0,⟨some 15,none,.mv (.t 3)⟩),(1,⟨some 16,none,.fadd 7 (.t 1)⟩),(2,⟨some 17,none,.load none (.t 16)⟩),(3,⟨some 18,none,.lenS (.t 17)⟩),(4,⟨some 19,none,.arith .lss (.t 15) (.t 18)⟩)] (some [1,3,19])) (.cond (.t 19) .skip (.exit 1))) (.seq (.block 2 (.seq (.ops 6 [ (0,⟨some 22,none,.fadd 7 (.t 1)⟩),(1,⟨some 23,none,.load none (.t 22)⟩),(2,⟨some 24,none,.mv (.t 3)⟩),(3,⟨some 25,none,.idxS 8 (.t 23) (.t 24)⟩),(4,⟨some 26,none,.load (some 8) (.t 25)⟩),(5,⟨some 27,none,.call 51 [(.t 26)] none false⟩)] (some [1,3,27])) (.cond (.t 27) (.seq (.ops 1 [ (0,⟨some 2,none,.mv (.k (.d (.val (.bool true))))⟩)] (some [2])) .ret) .skip))) (.ops 3 [ (0,⟨some 20,none,.mv (.t 3)⟩),(1,⟨some 21,none,.arith .add (.t 20) (.k (.d (.val (.int .i64 1))))⟩),(2,⟨some 3,none,.mv (.t 21)⟩)] (some [1,3]))))))) (.seq (.ops 2 [ (0,⟨some 29,none,.arith .eql (.t 6) (.k (.d (.val (.int .i64 4))))⟩),(1,⟨some 28,none,.mv (.t 29)⟩)] (some [1,6,28])) (.cond (.t 28) (.seq (.seq (.ops 1 [ (0,⟨some 4,none,.mv (.k (.d (.val (.int .i64 0))))⟩)] (some [1,4])) (.block 3 (.loop (.seq (.seq (.ops 5 [ (0,⟨some 30,none,.mv (.t 4)⟩),(1,⟨some 31,none,.fadd 7 (.t 1)⟩),(2,⟨some 32,none,.load none (.t 31)⟩),(3,⟨some 33,none,.lenS (.t 32)⟩),(4,⟨some 34,none,.arith .lss (.t 30) (.t 33)⟩)] (some [1,4,34])) (.cond (.t 34) .skip (.exit 3))) (.seq (.block 4 (.seq (.ops 7 [ (0,⟨some 37,none,.fadd 7 (.t 1)⟩),(1,⟨some 38,none,.load none (.t 37)⟩),(2,⟨some 39,none,.mv (.t 4)⟩),(3,⟨some 40,none,.idxS 8 (.t 38) (.t 39)⟩),(4,⟨some 41,none,.load (some 8) (.t 40)⟩),(5,⟨some 42,none,.call 51 [(.t 41)] none false⟩),(6,⟨some 43,none,.un .not (.t 42)⟩)] (some [1,4,43])) (.cond (.t 43) (.seq (.ops 1 [ (0,⟨some 2,none,.mv (.k (.d (.val (.bool false))))⟩)] (some [2])) .ret) .skip))) (.ops 3 [ (0,⟨some 35,none,.mv (.t 4)⟩),(1,⟨some 36,none,.arith .add (.t 35) (.k (.d (.val (.int .i64 1))))⟩),(2,⟨some 4,none,.mv (.t 36)⟩)] (some [1,4]))))))) (.seq (.ops 1 [ (0,⟨some 2,none,.mv (.k (.d (.val (.bool true))))⟩)] (some [2])) .ret)) (.seq (.ops 2 [ (0,⟨some 45,none,.arith .eql (.t 6) (.k (.d (.val (.int .i64 5))))⟩),(1,⟨some 44,none,.mv (.t 45)⟩)] (some [1,44])) (.cond (.t 44) (.seq (.ops 11 [ (0,⟨some 46,none,.fadd 5 (.t 1)⟩),(1,⟨some 47,none,.load none (.t 46)⟩),(2,⟨some 48,none,.arith .gtr (.t 47) (.k (.d (.val (.int .i64 0))))⟩),(3,⟨some 49,none,.mv (.t 48)⟩),(4,⟨some 50,(some (49,true)),.fadd 7 (.t 1)⟩),(5,⟨some 51,(some (49,true)),.load none (.t 50)⟩),(6,⟨some 52,(some (49,true)),.idxS 8 (.t 51) (.k (.d (.val (.int .i64 0))))⟩),(7,⟨some 53,(some (49,true)),.load (some 8) (.t 52)⟩),(8,⟨some 54,(some (49,true)),.call 51 [(.t 53)] none false⟩),(9,⟨some 55,none,.pick (.t 49) (.t 54) (.k (.d (.val (.bool false))))⟩),(10,⟨some 2,none,.mv (.t 55)⟩)] (some [2])) .ret) .skip)))))))))) (.seq (.ops 1 [ (0,⟨some 2,none,.mv (.k (.d (.val (.bool false))))⟩)] (some [2])) .ret)))
def md51 : FuncId→Option Nat × Bool
  | _=>(none,false)
def od51 : Nat→List (List Nat) × List Nat × Option (List Nat)
  | 0=>([],[],some [1])
  | 1=>([],[],some [1,6])
  | 2=>([],[],some [1,6,7])
  | 3=>([],[],some [2])
  | 4=>([],[],some [1,6,13])
  | 5=>([],[],some [1,3])
  | 6=>([],[],some [1,3,19])
  | 7=>([],[],some [1,3])
  | 8=>([],[],some [1,3,27])
  | 9=>([],[],some [2])
  | 10=>([],[],some [1,6,28])
  | 11=>([],[],some [1,4])
  | 12=>([],[],some [1,4,34])
  | 13=>([],[],some [1,4])
  | 14=>([],[],some [1,4,43])
  | 15=>([],[],some [2])
  | 16=>([],[],some [2])
  | 17=>([],[],some [1,44])
  | 18=>([],[],some [2])
  | 19=>([],[],some [2])
  | _=>([],[],none)
theorem b51 {ags : List AV} {row : Option (List DV)} {r : AV} {row' nw : Option (List DV)} (hal : ags.length≤56) (hrow : row'.isSome=true→row.isSome=true) (h : xwp Try.prog x51 (retK [.tmp 2] row.isSome r row' nw) (St.init ags row)) : Good Try.prog 51 ags row r row' nw :=
  good_of_body' (md:=md51) (od:=od51) Try.f51 (by kernel_rfl) (by kernel_rfl) (by kernel_rfl) (by kernel_rfl) (by kernel_rfl) hal hrow h

def x98 : XC:=(.seq (.ops 1 [ (0,⟨some 4,none,.mv (.k (.d (.val (.slice none 0 0))))⟩)] (some [0,1])) (.seq (.ops 4 [ (0,⟨some 8,none,.mv (.t 0)⟩),(1,⟨some 9,none,.lenS (.t 8)⟩),(2,⟨some 10,none,.mks [(.bool false)] 1 (.t 9) (.t 9)⟩),(3,⟨some 5,none,.mv (.t 10)⟩)] (some [0,1,5])) (.seq (.seq (.ops 1 [ (0,⟨some 6,none,.mv (.k (.d (.val (.int .i64 0))))⟩)] (some [0,1,5,6])) (.block 0 (.loop (.seq (.seq (.ops 4 [ (0,⟨some 11,none,.mv (.t 6)⟩),(1,⟨some 12,none,.mv (.t 0)⟩),(2,⟨some 13,none,.lenS (.t 12)⟩),(3,⟨some 14,none,.arith .lss (.t 11) (.t 13)⟩)] (some [0,1,5,6,14])) (.cond (.t 14) .skip (.exit 0))) (.seq (.block 1 (.seq (.ops 1 [ (0,⟨some 7,none,.mv (.k (.d (.val (.int .i64 0))))⟩)] (some [0,1,5,6,7])) (.block 2 (.loop (.seq (.seq (.ops 6 [ (0,⟨some 17,none,.mv (.t 6)⟩),(1,⟨some 18,none,.mv (.t 7)⟩),(2,⟨some 19,none,.arith .add (.t 17) (.t 18)⟩),(3,⟨some 20,none,.mv (.t 0)⟩),(4,⟨some 21,none,.lenS (.t 20)⟩),(5,⟨some 22,none,.arith .lss (.t 19) (.t 21)⟩)] (some [0,1,5,6,7,22])) (.cond (.t 22) .skip (.exit 2))) (.seq (.block 3 (.ops 24 [ (0,⟨some 25,none,.mv (.t 5)⟩),(1,⟨some 26,none,.mv (.t 6)⟩),(2,⟨some 27,none,.mv (.t 7)⟩),(3,⟨some 28,none,.arith .add (.t 26) (.t 27)⟩),(4,⟨some 29,none,.mv (.t 5)⟩),(5,⟨some 30,none,.mv (.t 6)⟩),(6,⟨some 31,none,.mv (.t 7)⟩),(7,⟨some 32,none,.arith .add (.t 30) (.t 31)⟩),(8,⟨some 33,none,.idxS 1 (.t 29) (.t 32)⟩),(9,⟨some 34,none,.load none (.t 33)⟩),(10,⟨some 35,none,.mv (.t 34)⟩),(11,⟨some 36,(some (35,false)),.mv (.t 0)⟩),(12,⟨some 37,(some (35,false)),.mv (.t 6)⟩),(13,⟨some 38,(some (35,false)),.idxS 1 (.t 36) (.t 37)⟩),(14,⟨some 39,(some (35,false)),.load none (.t 38)⟩),(15,⟨some 40,(some (35,false)),.mv (.t 39)⟩),(16,⟨some 41,(some (40,true)),.mv (.t 1)⟩),(17,⟨some 42,(some (40,true)),.mv (.t 7)⟩),(18,⟨some 43,(some (40,true)),.idxS 1 (.t 41) (.t 42)⟩),(19,⟨some 44,(some (40,true)),.load none (.t 43)⟩),(20,⟨some 45,(some (35,false)),.pick (.t 40) (.t 44) (.k (.d (.val (.bool false))))⟩),(21,⟨some 46,none,.pick (.t 35) (.k (.d (.val (.bool true)))) (.t 45)⟩),(22,⟨some 47,none,.idxS 1 (.t 25) (.t 28)⟩),(23,⟨none,none,.store 1 (.t 47) (.t 46)⟩)] (some [0,1,5,6,7]))) (.ops 3 [ (0,⟨some 23,none,.mv (.t 7)⟩),(1,⟨some 24,none,.arith .add (.t 23) (.k (.d (.val (.int .i64 1))))⟩),(2,⟨some 7,none,.mv (.t 24)⟩)] (some [0,1,5,6,7])))))))) (.ops 3 [ (0,⟨some 15,none,.mv (.t 6)⟩),(1,⟨some 16,none,.arith .add (.t 15) (.k (.d (.val (.int .i64 1))))⟩),(2,⟨some 6,none,.mv (.t 16)⟩)] (some [0,1,5,6]))))))) (.seq (.ops 2 [ (0,⟨some 48,none,.mv (.t 5)⟩),(1,⟨some 4,none,.mv (.t 48)⟩)] (some [4])) .ret))))
def md98 : FuncId→Option Nat × Bool
  | _=>(none,false)
def od98 : Nat→List (List Nat) × List Nat × Option (List Nat)
  | 0=>([],[],some [0,1])
  | 1=>([],[],some [0,1,5])
  | 2=>([],[],some [0,1,5,6])
  | 3=>([],[],some [0,1,5,6,14])
  | 4=>([],[],some [0,1,5,6])
  | 5=>([],[],some [0,1,5,6,7])
  | 6=>([],[],some [0,1,5,6,7,22])
  | 7=>([],[],some [0,1,5,6,7])
  | 8=>([],[],some [0,1,5,6,7])
  | 9=>([],[],some [4])
  | _=>([],[],none)
theorem b98 {ags : List AV} {row : Option (List DV)} {r : AV} {row' nw : Option (List DV)} (hal : ags.length≤49) (hrow : row'.isSome=true→row.isSome=true) (h : xwp Try.prog x98 (retK [.tmp 4] row.isSome r row' nw) (St.init ags row)) : Good Try.prog 98 ags row r row' nw :=
  good_of_body' (md:=md98) (od:=od98) Try.f98 (by kernel_rfl) (by kernel_rfl) (by kernel_rfl) (by kernel_rfl) (by kernel_rfl) hal hrow h

set_option maxRecDepth 100000
set_option maxHeartbeats 4000000
attribute [local irreducible] W E R KP thenK blockK retK Good xwp aRun
theorem none51_good : ∀ (n : Nat) (t : T),t.cnt≤n→n≤1000000→okT t→Good Try.prog 51 [nodeA t] none (.b (nnT t)) none none:=by
  intro n
  induction n with
  | zero=>intro t ht;have:=cnt_pos t;omega
  | succ n ih =>
  intro t ht hc hok
  obtain ⟨k,a,b,c,d,mn,mx,subs⟩:=t
  have hR:=okT_R hok
  have hoks:=okT_subs hok
  have hpl:=okT_plain hok
  have ih' : ∀ i (h : i < subs.length),Good Try.prog 51 [nodeA subs[i]] none (.b (nnT subs[i])) none none:=by
    intro i h
    refine ih _ ?_ (by omega) (okL_get subs i h hoks)
    have:=cntL_get subs i h
    simp only [T.cnt] at ht
    omega
  have hlen : subs.length≤1000000:=by
    have:=cntL_len subs
    simp only [T.cnt] at ht
    omega
  have e0 : nodeA (.node k a b c d mn mx subs)=.agg [.i k,.d (.val (.int .u64 a)),.d (.val (.int .u64 b)),.d (.val (.int .u64 c)),.d (.val (.int .u64 d)),.i mn,.i mx,.d (.sl (encL subs) subs.length)]:=rfl
  have hk5 : k=5→∃ u,subs=[u]:=fun h5=>by subst h5;exact plainT_5 hpl
  clear ih ht hok hoks hpl hR
  rw [e0,nnT]
  by_cases h2 : k=2
  · rw [if_pos h2]
    refine b51 (by simp) (by simp) (w_init ?_)
    unfold x51
    repeat' (first|(apply r_mvV;rfl)|(apply r_faddL;rfl)|(apply r_ldL (v:=.agg [.d (.val (.int .u64 a)),.d (.val (.int .u64 b)),.d (.val (.int .u64 c)),.d (.val (.int .u64 d))]);rfl;rfl;rfl)|(apply r_p (v:=.agg [.d (.val (.int .u64 0)),.d (.val (.int .u64 0)),.d (.val (.int .u64 0)),.d (.val (.int .u64 0))]);rfl)|(apply r_eqX (r:=isZero a b c d);rfl;rfl;rfl)|(apply r_ldL;rfl;rfl;rfl)|(apply r_eql;rfl;rfl;(first|(apply dT;omega)|(apply dF;omega)|rfl))|(apply r_box;((conv=>lhs;simp only [Nat.reduceAdd])<;>rfl);rfl;rfl;rfl)|(apply r_nilK)|(apply k_V;rfl)|(apply k_PL;rfl)|(apply k_nil)|(apply e_ret (vs:=[.d (.val _)]);rfl)|(apply w_seq)|(apply w_ops;((conv=>lhs;simp only [Nat.reduceAdd])<;>rfl))|(apply w_condT;rfl)|(apply e_thenN)|(apply w_block)|(apply e_thenR)|(apply e_blkR)|(apply w_ret))
    exact retB rfl
  rw [if_neg h2]
  by_cases h3 : k=3
  · rw [if_pos h3]
    refine b51 (by simp) (by simp) (w_init ?_)
    unfold x51
    repeat' (first|(apply r_mvV;rfl)|(apply r_faddL;rfl)|(apply r_ldL;rfl;rfl;rfl)|(apply r_eql;rfl;rfl;(first|(apply dT;omega)|(apply dF;omega)|rfl))|(apply r_box;((conv=>lhs;simp only [Nat.reduceAdd])<;>rfl);rfl;rfl;rfl)|(apply r_nilK)|(apply k_V;rfl)|(apply k_PL;rfl)|(apply k_nil)|(apply w_seq)|(apply w_ops;((conv=>lhs;simp only [Nat.reduceAdd])<;>rfl))|(apply w_condT;rfl)|(apply w_condF;rfl)|(apply e_thenN)|(apply w_block))
    apply w_loopI (S:=fun i : Nat=>⟨(Fr.nil.put 1 (.ptrL 1 0)).put 3 (.i i),Heap.nil.put 1 [.i k,.d (.val (.int .u64 a)),.d (.val (.int .u64 b)),.d (.val (.int .u64 c)),.d (.val (.int .u64 d)),.i mn,.i mx,.d (.sl (encL subs) subs.length)],Frz.lo 100,100⟩) (m:=fun i=>subs.length - i) (I:=fun i=>i≤subs.length∧nnAny subs=nnAny (subs.drop i)) (i0:=0)
    · exact ⟨Nat.zero_le _,rfl⟩
    · refine wkR (by omega) rfl rfl ?_
      repeat' (first|exact FWk.nil|(apply FWk.i;rfl;(first|rfl|omega|(simp;done)))|(apply FWk.ptr;rfl;rfl;rfl;omega;rfl))
    rintro i K ⟨hi,hp⟩ hK
    dsimp only
    rcases Nat.lt_or_ge i subs.length with hlt | hge
    · have hs:=NodeAt.sub hlt
      have hg:=ih' i hlt
      have hd:=nnAny_drop subs i hlt
      have hna : [nodeA subs[i]].all AV.nrm=true:=by rw [List.all_cons,nodeA_nrm];rfl
      rcases Bool.eq_false_or_eq_true (nnT subs[i]) with hq | hq
      · rw [hq] at hg hd
        repeat' (first|(apply r_mvV;rfl)|(apply r_faddL;rfl)|(apply r_l;apply ld_node';assumption;rfl)|(apply r_p;apply ix_sub;rfl;rfl;omega)|(apply r_callA (ags:=[nodeA subs[i]]);rfl;exact hna;exact hg)|(apply r_ldL;rfl;rfl;rfl)|(apply r_lss;rfl;rfl;(first|(apply dT;omega)|(apply dF;omega)|rfl))|(apply r_lenD;rfl)|(apply r_nilK)|(apply k_V;rfl)|(apply k_PL;rfl)|(apply k_nil)|(apply e_ret (vs:=[.d (.val _)]);rfl)|(apply w_seq)|(apply w_ops;((conv=>lhs;simp only [Nat.reduceAdd])<;>rfl))|(apply w_condT;rfl)|(apply e_thenN)|(apply w_block)|(apply e_thenR)|(apply e_blkR)|(apply w_ret)|(apply w_skip))
        exact retB (by rw [hp,hd];rfl)
      · rw [hq] at hg hd
        repeat' (first|(apply r_mvV;rfl)|(apply r_faddL;rfl)|(apply r_l;apply ld_node';assumption;rfl)|(apply r_p;apply ix_sub;rfl;rfl;omega)|(apply r_callA (ags:=[nodeA subs[i]]);rfl;exact hna;exact hg)|(apply r_ldL;rfl;rfl;rfl)|(apply r_lss;rfl;rfl;(first|(apply dT;omega)|(apply dF;omega)|rfl))|(apply r_add;rfl;rfl;rfl;omega)|(apply r_lenD;rfl)|(apply r_nilK)|(apply k_V;rfl)|(apply k_PL;rfl)|(apply k_nil)|(apply w_seq)|(apply w_ops;((conv=>lhs;simp only [Nat.reduceAdd])<;>rfl))|(apply w_condT;rfl)|(apply w_condF;rfl)|(apply e_thenN)|(apply w_block)|(apply e_blkN)|(apply w_skip))
        apply e_thenK
        apply hK (i + 1)
        · exact ⟨by omega,by rw [hp,hd,Bool.false_or]⟩
        · omega
        · refine wkR (by omega) rfl rfl ?_
          repeat' (first|exact FWk.nil|(apply FWk.i;rfl;(first|rfl|omega|(simp;done)))|(apply FWk.ptr;rfl;rfl;rfl;omega;rfl))
    · have e : nnAny subs=false:=by rw [hp,List.drop_of_length_le hge,nnAny]
      repeat' (first|(apply r_mvV;rfl)|(apply r_faddL;rfl)|(apply r_ldL;rfl;rfl;rfl)|(apply r_lss;rfl;rfl;(first|(apply dT;omega)|(apply dF;omega)|rfl))|(apply r_lenD;rfl)|(apply r_nilK)|(apply k_V;rfl)|(apply k_PL;rfl)|(apply k_nil)|(apply e_ret (vs:=[.d (.val _)]);rfl)|(apply w_seq)|(apply w_ops;((conv=>lhs;simp only [Nat.reduceAdd])<;>rfl))|(apply w_condF;rfl)|(apply e_thenN)|(apply e_thenX)|(apply e_blkN)|(apply e_blkE)|(apply w_exit)|(apply w_ret))
      exact retB e.symm
  rw [if_neg h3]
  by_cases h4 : k=4
  · rw [if_pos h4]
    refine b51 (by simp) (by simp) (w_init ?_)
    unfold x51
    repeat' (first|(apply r_mvV;rfl)|(apply r_faddL;rfl)|(apply r_ldL;rfl;rfl;rfl)|(apply r_eql;rfl;rfl;(first|(apply dT;omega)|(apply dF;omega)|rfl))|(apply r_box;((conv=>lhs;simp only [Nat.reduceAdd])<;>rfl);rfl;rfl;rfl)|(apply r_nilK)|(apply k_V;rfl)|(apply k_PL;rfl)|(apply k_nil)|(apply w_seq)|(apply w_ops;((conv=>lhs;simp only [Nat.reduceAdd])<;>rfl))|(apply w_condT;rfl)|(apply w_condF;rfl)|(apply e_thenN)|(apply w_block))
    apply w_loopI (S:=fun i : Nat=>⟨(Fr.nil.put 1 (.ptrL 1 0)).put 4 (.i i),Heap.nil.put 1 [.i k,.d (.val (.int .u64 a)),.d (.val (.int .u64 b)),.d (.val (.int .u64 c)),.d (.val (.int .u64 d)),.i mn,.i mx,.d (.sl (encL subs) subs.length)],Frz.lo 100,100⟩) (m:=fun i=>subs.length - i) (I:=fun i=>i≤subs.length∧nnAll subs=nnAll (subs.drop i)) (i0:=0)
    · exact ⟨Nat.zero_le _,rfl⟩
    · refine wkR (by omega) rfl rfl ?_
      repeat' (first|exact FWk.nil|(apply FWk.i;rfl;(first|rfl|omega|(simp;done)))|(apply FWk.ptr;rfl;rfl;rfl;omega;rfl))
    rintro i K ⟨hi,hp⟩ hK
    dsimp only
    rcases Nat.lt_or_ge i subs.length with hlt | hge
    · have hs:=NodeAt.sub hlt
      have hg:=ih' i hlt
      have hd:=nnAll_drop subs i hlt
      have hna : [nodeA subs[i]].all AV.nrm=true:=by rw [List.all_cons,nodeA_nrm];rfl
      rcases Bool.eq_false_or_eq_true (nnT subs[i]) with hq | hq
      · rw [hq] at hg hd
        repeat' (first|(apply r_mvV;rfl)|(apply r_faddL;rfl)|(apply r_l;apply ld_node';assumption;rfl)|(apply r_p;apply ix_sub;rfl;rfl;omega)|(apply r_callA (ags:=[nodeA subs[i]]);rfl;exact hna;exact hg)|(apply r_ldL;rfl;rfl;rfl)|(apply r_lss;rfl;rfl;(first|(apply dT;omega)|(apply dF;omega)|rfl))|(apply r_add;rfl;rfl;rfl;omega)|(apply r_not;rfl;rfl)|(apply r_lenD;rfl)|(apply r_nilK)|(apply k_V;rfl)|(apply k_PL;rfl)|(apply k_nil)|(apply w_seq)|(apply w_ops;((conv=>lhs;simp only [Nat.reduceAdd])<;>rfl))|(apply w_condT;rfl)|(apply w_condF;rfl)|(apply e_thenN)|(apply w_block)|(apply e_blkN)|(apply w_skip))
        apply e_thenK
        apply hK (i + 1)
        · exact ⟨by omega,by rw [hp,hd,Bool.true_and]⟩
        · omega
        · refine wkR (by omega) rfl rfl ?_
          repeat' (first|exact FWk.nil|(apply FWk.i;rfl;(first|rfl|omega|(simp;done)))|(apply FWk.ptr;rfl;rfl;rfl;omega;rfl))
      · rw [hq] at hg hd
        repeat' (first|(apply r_mvV;rfl)|(apply r_faddL;rfl)|(apply r_l;apply ld_node';assumption;rfl)|(apply r_p;apply ix_sub;rfl;rfl;omega)|(apply r_callA (ags:=[nodeA subs[i]]);rfl;exact hna;exact hg)|(apply r_ldL;rfl;rfl;rfl)|(apply r_lss;rfl;rfl;(first|(apply dT;omega)|(apply dF;omega)|rfl))|(apply r_not;rfl;rfl)|(apply r_lenD;rfl)|(apply r_nilK)|(apply k_V;rfl)|(apply k_PL;rfl)|(apply k_nil)|(apply e_ret (vs:=[.d (.val _)]);rfl)|(apply w_seq)|(apply w_ops;((conv=>lhs;simp only [Nat.reduceAdd])<;>rfl))|(apply w_condT;rfl)|(apply e_thenN)|(apply w_block)|(apply e_thenR)|(apply e_blkR)|(apply w_ret)|(apply w_skip))
        exact retB (by rw [hp,hd];rfl)
    · have e : nnAll subs=true:=by rw [hp,List.drop_of_length_le hge,nnAll]
      repeat' (first|(apply r_mvV;rfl)|(apply r_faddL;rfl)|(apply r_ldL;rfl;rfl;rfl)|(apply r_lss;rfl;rfl;(first|(apply dT;omega)|(apply dF;omega)|rfl))|(apply r_lenD;rfl)|(apply r_nilK)|(apply k_V;rfl)|(apply k_PL;rfl)|(apply k_nil)|(apply e_ret (vs:=[.d (.val _)]);rfl)|(apply w_seq)|(apply w_ops;((conv=>lhs;simp only [Nat.reduceAdd])<;>rfl))|(apply w_condF;rfl)|(apply e_thenN)|(apply e_thenR)|(apply e_thenX)|(apply e_blkR)|(apply e_blkE)|(apply w_exit)|(apply w_ret))
      exact retB e.symm
  rw [if_neg h4]
  by_cases h5 : k=5
  · rw [if_pos h5]
    obtain ⟨u,hu⟩:=hk5 h5
    have hl1 : 0 < subs.length:=by rw [hu];simp
    have hg:=ih' 0 hl1
    have hs:=NodeAt.sub hl1
    have hu0 : subs[0]=u:=by simp [hu]
    rw [hu0] at hg hs
    have en : nnFst subs=nnT u:=by rw [hu,nnFst]
    rw [en]
    have hna : [nodeA u].all AV.nrm=true:=by rw [List.all_cons,nodeA_nrm];rfl
    clear hu0 en hu hk5 ih'
    generalize nnT u=q at hg
    by_cases hm : 0 < mn
    · rw [decide_eq_true hm,Bool.true_and]
      refine b51 (by simp) (by simp) (w_init ?_)
      unfold x51
      repeat' (first|(apply r_mvV;rfl)|(apply r_faddL;rfl)|(apply r_l;apply ld_node';assumption;rfl)|(apply r_p (v:=.d (.ptr (encL subs) 0));exact ix_sub0 rfl rfl hl1)|(apply r_callA (ags:=[nodeA u]);rfl;exact hna;exact hg)|(apply r_ldL;rfl;rfl;rfl)|(apply r_eql;rfl;rfl;(first|(apply dT;omega)|(apply dF;omega)|rfl))|(apply r_gtr;rfl;rfl;(first|(apply dT;omega)|(apply dF;omega)|rfl))|(apply r_pickT;rfl)|(apply r_gT;rfl)|(apply r_box;((conv=>lhs;simp only [Nat.reduceAdd])<;>rfl);rfl;rfl;rfl)|(apply r_nilK)|(apply k_V;rfl)|(apply k_PL;rfl)|(apply k_nil)|(apply e_ret (vs:=[.d (.val _)]);rfl)|(apply w_seq)|(apply w_ops;((conv=>lhs;simp only [Nat.reduceAdd])<;>rfl))|(apply w_condT;rfl)|(apply w_condF;rfl)|(apply e_thenN)|(apply w_block)|(apply e_thenR)|(apply e_blkR)|(apply w_ret))
      exact retB rfl
    · rw [decide_eq_false hm,Bool.false_and]
      refine b51 (by simp) (by simp) (w_init ?_)
      unfold x51
      repeat' (first|(apply r_mvV;rfl)|(apply r_faddL;rfl)|(apply r_ldL;rfl;rfl;rfl)|(apply r_eql;rfl;rfl;(first|(apply dT;omega)|(apply dF;omega)|rfl))|(apply r_gtr;rfl;rfl;(first|(apply dT;omega)|(apply dF;omega)|rfl))|(apply r_pickF;rfl)|(apply r_gF';rfl;rfl)|(apply r_box;((conv=>lhs;simp only [Nat.reduceAdd])<;>rfl);rfl;rfl;rfl)|(apply r_nilK)|(apply k_V;rfl)|(apply k_PL;rfl)|(apply k_nil)|(apply e_ret (vs:=[.d (.val _)]);rfl)|(apply w_seq)|(apply w_ops;((conv=>lhs;simp only [Nat.reduceAdd])<;>rfl))|(apply w_condT;rfl)|(apply w_condF;rfl)|(apply e_thenN)|(apply w_block)|(apply e_thenR)|(apply e_blkR)|(apply w_ret))
      exact retB rfl
  · rw [if_neg h5]
    refine b51 (by simp) (by simp) (w_init ?_)
    unfold x51
    repeat' (first|(apply r_mvV;rfl)|(apply r_faddL;rfl)|(apply r_ldL;rfl;rfl;rfl)|(apply r_eql;rfl;rfl;(first|(apply dT;omega)|(apply dF;omega)|rfl))|(apply r_box;((conv=>lhs;simp only [Nat.reduceAdd])<;>rfl);rfl;rfl;rfl)|(apply r_nilK)|(apply k_V;rfl)|(apply k_PL;rfl)|(apply k_nil)|(apply e_ret (vs:=[.d (.val _)]);rfl)|(apply w_seq)|(apply w_ops;((conv=>lhs;simp only [Nat.reduceAdd])<;>rfl))|(apply w_condF;rfl)|(apply e_thenN)|(apply w_block)|(apply e_blkN)|(apply w_ret)|(apply w_skip))
    exact retB rfl
def Joined (a b p : List Bool) (D : Nat→Nat→Prop) : Prop:=p.length=a.length∧∀ n,n < a.length→(At p n↔∃ i k,D i k∧i + k=n∧At a i∧At b k)
theorem join98_good (a b : List Bool) {m : Nat} (ha : a.length=m) (hb : b.length=m) (hm : m≤1000000) : Good Try.prog 98 [.d (.sl (encB a) m),.d (.sl (encB b) m)] none (.d (.sl (encB (joinB a b)) m)) none none:=by
  refine b98 (by simp) (by simp) (w_init ?_)
  unfold x98
  repeat' (first|(apply r_mvV;rfl)|(apply r_mvS;rfl)|(apply r_mvSL;rfl)|(apply r_mksB (m:=m);rfl;rfl;rfl;rfl;omega)|(apply r_lenD;rfl)|(apply r_nilK)|(apply k_V;rfl)|(apply k_S;rfl)|(apply k_SL;rfl)|(apply k_nil)|(apply w_seq)|(apply w_ops;((conv=>lhs;simp only [Nat.reduceAdd])<;>rfl))|(apply e_thenN)|(apply w_block))
  apply w_loopI (ι:=Nat × List Bool) (S:=fun q=>⟨(((Fr.nil.put 0 (.d (.sl (encB a) m))).put 1 (.d (.sl (encB b) m))).put 5 (.slL 50 0 m 1)).put 6 (.i q.1),rowsOf [(50,(encB q.2).map AV.d)],Frz.buts 100 [50],100⟩) (m:=fun q=>m - q.1) (I:=fun q=>q.1≤m∧Joined a b q.2 (fun i k=>i < q.1)) (i0:=(0,List.replicate m false))
  · refine ⟨Nat.zero_le _,by simp [ha],fun n hn=>⟨fun h=>absurd h (at_rep _ _),?_⟩⟩
    rintro ⟨i,k,h,_⟩
    dsimp only at h
    omega
  · dsimp only
    refine wkM [(50,4)] [] rfl ?_ ?_ rfl ?_
    · intro p hp
      simp only [List.mem_cons,List.not_mem_nil,or_false] at hp
      rcases hp with rfl
      exact ⟨by omega,.inr ⟨rfl,_,rfl,.data encB_isD⟩⟩
    · intro q hq;simp only [List.mem_cons,List.not_mem_nil,or_false] at hq;rcases hq with rfl<;>rfl
    · repeat' (first|exact FWk.nil|(apply FWk.i;rfl;(first|rfl|omega|(simp;done)))|(apply FWk.sl;rfl;rfl;rfl;rfl;omega;rfl)|(apply FWk.d;rfl;rfl))
  rintro ⟨i,p⟩ K ⟨hi,hj⟩ hK
  dsimp only at hi hj hK ⊢
  rcases Nat.lt_or_ge i m with hlt | hge
  · repeat' (first|(apply r_mvV;rfl)|(apply r_mvS;rfl)|(apply r_lss;rfl;rfl;(first|(apply dT;omega)|(apply dF;omega)|rfl))|(apply r_lenD;rfl)|(apply r_nilK)|(apply k_V;rfl)|(apply k_S;rfl)|(apply k_SL;rfl)|(apply k_nil)|(apply w_seq)|(apply w_ops;((conv=>lhs;simp only [Nat.reduceAdd])<;>rfl))|(apply w_condT;rfl)|(apply e_thenN)|(apply w_block)|(apply w_skip))
    apply w_loopI (ι:=Nat × List Bool) (S:=fun q=>⟨((((Fr.nil.put 0 (.d (.sl (encB a) m))).put 1 (.d (.sl (encB b) m))).put 5 (.slL 50 0 m 1)).put 6 (.i i)).put 7 (.i q.1),rowsOf [(50,(encB q.2).map AV.d)],Frz.buts 200 [50],200⟩) (m:=fun q=>m - q.1) (I:=fun q=>i + q.1≤m∧Joined a b q.2 (fun i' k'=>i' < i ∨ (i'=i∧k' < q.1))) (i0:=(0,p))
    · refine ⟨by dsimp only;omega,hj.1,fun n hn=>?_⟩
      rw [hj.2 n hn]
      dsimp only
      constructor
      · rintro ⟨i',k',h1,h2⟩;exact ⟨i',k',.inl h1,h2⟩
      · rintro ⟨i',k',h1 | h1,h2⟩
        · exact ⟨i',k',h1,h2⟩
        · omega
    · refine wkM [] [] rfl ?_ ?_ rfl ?_
      · intro p hp
        simp only [List.mem_cons,List.not_mem_nil,or_false] at hp
        rcases hp with rfl
        exact ⟨by omega,.inr ⟨rfl,_,rfl,.data encB_isD⟩⟩
      · intro q hq;simp only [List.mem_cons,List.not_mem_nil,or_false] at hq;rcases hq with rfl<;>rfl
      · dsimp only
        repeat' (first|exact FWk.nil|(apply FWk.i;rfl;(first|rfl|omega|(simp;done)))|(apply FWk.sl;rfl;rfl;rfl;rfl;omega;rfl)|(apply FWk.d;rfl;rfl))
    rintro ⟨k,p2⟩ K2 ⟨hik,hj2⟩ hK2
    dsimp only at hik hj2 hK2 ⊢
    rcases Nat.lt_or_ge (i + k) m with hlk | hgk
    · have hpl : p2.length=m:=hj2.1.trans ha
      have hgp : p2[i + k]?=some (p2.getD (i + k) false):=by rw [List.getD_eq_getElem?_getD,List.getElem?_eq_getElem (by omega)];rfl
      have hga : a[i]?=some (a.getD i false):=by rw [List.getD_eq_getElem?_getD,List.getElem?_eq_getElem (by omega)];rfl
      have hgb : b[k]?=some (b.getD k false):=by rw [List.getD_eq_getElem?_getD,List.getElem?_eq_getElem (by omega)];rfl
      have fin : ∀ v fr C Z nx,v=(p2.getD (i + k) false || a.getD i false && b.getD k false)→Wk ⟨fr,C,Z,nx⟩ ⟨((((Fr.nil.put 0 (.d (.sl (encB a) m))).put 1 (.d (.sl (encB b) m))).put 5 (.slL 50 0 m 1)).put 6 (.i i)).put 7 (.i ((k + 1 : Nat) : Int)),rowsOf [(50,(encB (p2.set (i + k) v)).map AV.d)],Frz.buts 200 [50],200⟩→K2 ⟨fr,C,Z,nx⟩:=by
        intro v fr C Z nx hv hw
        refine hK2 (k + 1,p2.set (i + k) v) fr C Z nx ⟨by dsimp only;omega,by dsimp only;rw [List.length_set];exact hj2.1,fun n hn=>?_⟩ (by dsimp only;omega) hw
        dsimp only
        rw [at_set n (by omega),hj2.2 n hn]
        have hv2 : v=true↔(At p2 (i + k) ∨ (At a i∧At b k)):=by
          rw [hv];simp [At]
        rw [hv2]
        constructor
        · rintro (⟨rfl,h | ⟨h1,h2⟩⟩ | ⟨hne,i',k',h1,h2,h3⟩)
          · rw [hj2.2 _ hn] at h
            obtain ⟨i',k',h1,h2⟩:=h
            exact ⟨i',k',by omega,h2⟩
          · exact ⟨i,k,.inr ⟨rfl,by omega⟩,rfl,h1,h2⟩
          · exact ⟨i',k',by omega,h2,h3⟩
        · rintro ⟨i',k',h1,h2,h3,h4⟩
          by_cases hn2 : n=i + k
          · left
            refine ⟨hn2,?_⟩
            by_cases he : i'=i
            · subst he
              have : k'=k:=by omega
              subst this
              exact .inr ⟨h3,h4⟩
            · left
              rw [hj2.2 _ (by omega)]
              exact ⟨i',k',by omega,by omega,h3,h4⟩
          · exact .inr ⟨hn2,i',k',by omega,h2,h3,h4⟩
      generalize hv1 : p2.getD (i + k) false=v1 at hgp fin
      generalize a.getD i false=v2 at hga fin
      generalize b.getD k false=v3 at hgb fin
      cases v1<;>cases v2
      all_goals
        repeat' (first|(apply r_mvV;rfl)|(apply r_mvS;rfl)|(apply r_mvSL;rfl)|(apply r_ixL (j:=i + k);rfl;((conv=>lhs;simp only [Nat.reduceAdd])<;>rfl);omega)|(apply r_ldBL (j:=i + k);rfl;rfl;exact hgp)|(apply r_ixB' (j:=i);rfl;rfl;exact hlt;exact ha)|(apply r_ldB (j:=i);rfl;exact hga)|(apply r_ixB' (j:=k);rfl;rfl;omega;exact hb)|(apply r_ldB (j:=k);rfl;exact hgb)|(apply r_stB (j:=i + k);rfl;rfl;rfl;rfl;omega)|(apply r_lss;rfl;rfl;(first|(apply dT;omega)|(apply dF;omega)|rfl))|(apply r_add;rfl;rfl;rfl;omega)|(apply r_pickT;rfl)|(apply r_pickF;rfl)|(apply r_lenD;rfl)|(apply r_gT;rfl)|(apply r_gF';rfl;rfl)|(apply r_gN';rfl)|(apply r_nilK)|(apply k_V;rfl)|(apply k_S;rfl)|(apply k_SL;rfl)|(apply k_nil)|(apply w_seq)|(apply w_ops;((conv=>lhs;simp only [Nat.reduceAdd])<;>rfl))|(apply w_condT;rfl)|(apply e_thenN)|(apply w_block)|(apply e_blkN)|(apply w_skip))
        apply e_thenK
        refine fin _ _ _ _ _ (by first | rfl | simp) ?_
        refine wkM [] [] rfl ?_ ?_ rfl ?_
        · intro p hp
          simp only [List.mem_cons,List.not_mem_nil,or_false] at hp
          rcases hp with rfl
          exact ⟨by omega,.inr ⟨rfl,_,rfl,.data encB_isD⟩⟩
        · intro q hq;simp only [List.mem_cons,List.not_mem_nil,or_false] at hq;rcases hq with rfl<;>rfl
        · repeat' (first|exact FWk.nil|(apply FWk.i;rfl;(first|rfl|omega|(simp;done)))|(apply FWk.sl;rfl;rfl;rfl;rfl;omega;rfl)|(apply FWk.d;rfl;rfl))
    · repeat' (first|(apply r_mvV;rfl)|(apply r_mvS;rfl)|(apply r_lss;rfl;rfl;(first|(apply dT;omega)|(apply dF;omega)|rfl))|(apply r_add;rfl;rfl;rfl;omega)|(apply r_lenD;rfl)|(apply r_nilK)|(apply k_V;rfl)|(apply k_S;rfl)|(apply k_SL;rfl)|(apply k_nil)|(apply w_seq)|(apply w_ops;((conv=>lhs;simp only [Nat.reduceAdd])<;>rfl))|(apply w_condF;rfl)|(apply e_thenN)|(apply e_thenX)|(apply e_blkN)|(apply e_blkE)|(apply w_exit))
      apply e_thenK
      apply hK (i + 1,p2)
      · refine ⟨by dsimp only;omega,hj2.1,fun n hn=>?_⟩
        rw [hj2.2 n hn]
        dsimp only
        constructor
        · rintro ⟨i',k',h1,h2,h3,h4⟩;exact ⟨i',k',by omega,h2,h3,h4⟩
        · rintro ⟨i',k',h1,h2,h3,h4⟩
          have:=h4.lt
          exact ⟨i',k',by omega,h2,h3,h4⟩
      · dsimp only;omega
      · refine wkM [] [] rfl ?_ ?_ rfl ?_
        · intro p hp
          simp only [List.mem_cons,List.not_mem_nil,or_false] at hp
          rcases hp with rfl
          exact ⟨by omega,.inr ⟨rfl,_,rfl,.data encB_isD⟩⟩
        · intro q hq;simp only [List.mem_cons,List.not_mem_nil,or_false] at hq;rcases hq with rfl<;>rfl
        · repeat' (first|exact FWk.nil|(apply FWk.i;rfl;(first|rfl|omega|(simp;done)))|(apply FWk.sl;rfl;rfl;rfl;rfl;omega;rfl)|(apply FWk.d;rfl;rfl))
  · have e : p=joinB a b:=by
      refine joinB_eq hj.1 fun n hn=>?_
      rw [hj.2 n hn]
      constructor
      · rintro ⟨i',k',h1,rfl,h3,h4⟩;exact ⟨i',by omega,h3,by rw [Nat.add_sub_cancel_left];exact h4⟩
      · rintro ⟨i',h1,h3,h4⟩
        have:=h3.lt
        exact ⟨i',n - i',by omega,by omega,h3,h4⟩
    repeat' (first|(apply r_mvV;rfl)|(apply r_mvS;rfl)|(apply r_mvSL;rfl)|(apply r_lss;rfl;rfl;(first|(apply dT;omega)|(apply dF;omega)|rfl))|(apply r_lenD;rfl)|(apply r_nilK)|(apply k_V;rfl)|(apply k_S;rfl)|(apply k_SL;rfl)|(apply k_nil)|(apply e_ret;rfl)|(apply w_seq)|(apply w_ops;((conv=>lhs;simp only [Nat.reduceAdd])<;>rfl))|(apply w_condF;rfl)|(apply e_thenN)|(apply e_thenX)|(apply e_blkE)|(apply w_exit)|(apply w_ret))
    rcases Nat.eq_zero_or_pos m with h0 | h0
    · subst h0
      have hpe : p=[]:=List.length_eq_zero_iff.1 (hj.1.trans ha)
      rw [← e,hpe]
      exact .data _ rfl
    · rw [← e]
      exact retSB rfl (hj.1.trans ha)
end Go.Sv
namespace Go.Sv
open Go Go.Proofs
def x49 : XC:=(.seq (.ops 2 [ (0,⟨some 2,none,.box (.t 0)⟩),(1,⟨some 4,none,.mv (.k (.d (.val (.slice none 0 0))))⟩)] (some [1,2])) (.seq (.ops 4 [ (0,⟨some 15,none,.mv (.t 1)⟩),(1,⟨some 16,none,.arith .add (.t 15) (.k (.d (.val (.int .i64 1))))⟩),(2,⟨some 17,none,.mks [(.bool false)] 1 (.t 16) (.t 16)⟩),(3,⟨some 5,none,.mv (.t 17)⟩)] (some [1,2,5])) (.seq (.seq (.ops 2 [ (0,⟨some 18,none,.fadd 0 (.t 2)⟩),(1,⟨some 19,none,.load none (.t 18)⟩)] (some [1,2,5,19])) (.block 0 (.seq (.ops 2 [ (0,⟨some 21,none,.arith .eql (.t 19) (.k (.d (.val (.int .i64 1))))⟩),(1,⟨some 20,none,.mv (.t 21)⟩)] (some [1,2,5,19,20])) (.cond (.t 20) (.ops 3 [ (0,⟨some 22,none,.mv (.t 5)⟩),(1,⟨some 23,none,.idxS 1 (.t 22) (.k (.d (.val (.int .i64 0))))⟩),(2,⟨none,none,.store 1 (.t 23) (.k (.d (.val (.bool true))))⟩)] (some [5])) (.seq (.ops 2 [ (0,⟨some 25,none,.arith .eql (.t 19) (.k (.d (.val (.int .i64 2))))⟩),(1,⟨some 24,none,.mv (.t 25)⟩)] (some [1,2,5,19,24])) (.cond (.t 24) (.seq (.ops 2 [ (0,⟨some 26,none,.mv (.t 1)⟩),(1,⟨some 27,none,.arith .geq (.t 26) (.k (.d (.val (.int .i64 1))))⟩)] (some [2,5,27])) (.cond (.t 27) (.ops 7 [ (0,⟨some 28,none,.mv (.t 5)⟩),(1,⟨some 29,none,.fadd 1 (.t 2)⟩),(2,⟨some 30,none,.load (some 4) (.t 29)⟩),(3,⟨some 31,none,.build [(.int .u64 0),(.int .u64 0),(.int .u64 0),(.int .u64 0)] []⟩),(4,⟨some 32,none,.eqAgg 4 true (.t 30) (.t 31)⟩),(5,⟨some 33,none,.idxS 1 (.t 28) (.k (.d (.val (.int .i64 1))))⟩),(6,⟨none,none,.store 1 (.t 33) (.t 32)⟩)] (some [5])) .skip)) (.seq (.ops 2 [ (0,⟨some 35,none,.arith .eql (.t 19) (.k (.d (.val (.int .i64 3))))⟩),(1,⟨some 34,none,.mv (.t 35)⟩)] (some [1,2,5,19,34])) (.cond (.t 34) (.seq (.ops 3 [ (0,⟨some 36,none,.mv (.t 5)⟩),(1,⟨some 37,none,.idxS 1 (.t 36) (.k (.d (.val (.int .i64 0))))⟩),(2,⟨none,none,.store 1 (.t 37) (.k (.d (.val (.bool true))))⟩)] (some [1,2,5])) (.seq (.ops 1 [ (0,⟨some 6,none,.mv (.k (.d (.val (.int .i64 0))))⟩)] (some [1,2,5,6])) (.block 1 (.loop (.seq (.seq (.ops 5 [ (0,⟨some 38,none,.mv (.t 6)⟩),(1,⟨some 39,none,.fadd 7 (.t 2)⟩),(2,⟨some 40,none,.load none (.t 39)⟩),(3,⟨some 41,none,.lenS (.t 40)⟩),(4,⟨some 42,none,.arith .lss (.t 38) (.t 41)⟩)] (some [1,2,5,6,42])) (.cond (.t 42) .skip (.exit 1))) (.seq (.block 2 (.ops 10 [ (0,⟨some 45,none,.mv (.t 5)⟩),(1,⟨some 46,none,.fadd 7 (.t 2)⟩),(2,⟨some 47,none,.load none (.t 46)⟩),(3,⟨some 48,none,.mv (.t 6)⟩),(4,⟨some 49,none,.idxS 8 (.t 47) (.t 48)⟩),(5,⟨some 50,none,.load (some 8) (.t 49)⟩),(6,⟨some 51,none,.mv (.t 1)⟩),(7,⟨some 52,none,.call 49 [(.t 50),(.t 51)] none false⟩),(8,⟨some 53,none,.call 98 [(.t 45),(.t 52)] none false⟩),(9,⟨some 5,none,.mv (.t 53)⟩)] (some [1,2,5,6]))) (.ops 3 [ (0,⟨some 43,none,.mv (.t 6)⟩),(1,⟨some 44,none,.arith .add (.t 43) (.k (.d (.val (.int .i64 1))))⟩),(2,⟨some 6,none,.mv (.t 44)⟩)] (some [1,2,5,6])))))))) (.seq (.ops 2 [ (0,⟨some 55,none,.arith .eql (.t 19) (.k (.d (.val (.int .i64 4))))⟩),(1,⟨some 54,none,.mv (.t 55)⟩)] (some [1,2,5,19,54])) (.cond (.t 54) (.seq (.ops 1 [ (0,⟨some 7,none,.mv (.k (.d (.val (.int .i64 0))))⟩)] (some [1,2,5,7])) (.block 3 (.loop (.seq (.seq (.ops 5 [ (0,⟨some 56,none,.mv (.t 7)⟩),(1,⟨some 57,none,.fadd 7 (.t 2)⟩),(2,⟨some 58,none,.load none (.t 57)⟩),(3,⟨some 59,none,.lenS (.t 58)⟩),(4,⟨some 60,none,.arith .lss (.t 56) (.t 59)⟩)] (some [1,2,5,7,60])) (.cond (.t 60) .skip (.exit 3))) (.seq (.block 4 (.seq (.ops 8 [ (0,⟨some 63,none,.fadd 7 (.t 2)⟩),(1,⟨some 64,none,.load none (.t 63)⟩),(2,⟨some 65,none,.mv (.t 7)⟩),(3,⟨some 66,none,.idxS 8 (.t 64) (.t 65)⟩),(4,⟨some 67,none,.load (some 8) (.t 66)⟩),(5,⟨some 68,none,.mv (.t 1)⟩),(6,⟨some 69,none,.call 49 [(.t 67),(.t 68)] none false⟩),(7,⟨some 8,none,.mv (.t 69)⟩)] (some [1,2,5,7,8])) (.seq (.ops 1 [ (0,⟨some 9,none,.mv (.k (.d (.val (.int .i64 0))))⟩)] (some [1,2,5,7,8,9])) (.block 5 (.loop (.seq (.seq (.ops 3 [ (0,⟨some 70,none,.mv (.t 9)⟩),(1,⟨some 71,none,.mv (.t 1)⟩),(2,⟨some 72,none,.arith .leq (.t 70) (.t 71)⟩)] (some [1,2,5,7,8,9,72])) (.cond (.t 72) .skip (.exit 5))) (.seq (.block 6 (.ops 14 [ (0,⟨some 75,none,.mv (.t 5)⟩),(1,⟨some 76,none,.mv (.t 9)⟩),(2,⟨some 77,none,.mv (.t 5)⟩),(3,⟨some 78,none,.mv (.t 9)⟩),(4,⟨some 79,none,.idxS 1 (.t 77) (.t 78)⟩),(5,⟨some 80,none,.load none (.t 79)⟩),(6,⟨some 81,none,.mv (.t 80)⟩),(7,⟨some 82,(some (81,false)),.mv (.t 8)⟩),(8,⟨some 83,(some (81,false)),.mv (.t 9)⟩),(9,⟨some 84,(some (81,false)),.idxS 1 (.t 82) (.t 83)⟩),(10,⟨some 85,(some (81,false)),.load none (.t 84)⟩),(11,⟨some 86,none,.pick (.t 81) (.k (.d (.val (.bool true)))) (.t 85)⟩),(12,⟨some 87,none,.idxS 1 (.t 75) (.t 76)⟩),(13,⟨none,none,.store 1 (.t 87) (.t 86)⟩)] (some [1,2,5,7,8,9]))) (.ops 3 [ (0,⟨some 73,none,.mv (.t 9)⟩),(1,⟨some 74,none,.arith .add (.t 73) (.k (.d (.val (.int .i64 1))))⟩),(2,⟨some 9,none,.mv (.t 74)⟩)] (some [1,2,5,7,8,9]))))))))) (.ops 3 [ (0,⟨some 61,none,.mv (.t 7)⟩),(1,⟨some 62,none,.arith .add (.t 61) (.k (.d (.val (.int .i64 1))))⟩),(2,⟨some 7,none,.mv (.t 62)⟩)] (some [1,2,5,7]))))))) (.seq (.ops 2 [ (0,⟨some 89,none,.arith .eql (.t 19) (.k (.d (.val (.int .i64 5))))⟩),(1,⟨some 88,none,.mv (.t 89)⟩)] (some [1,2,5,88])) (.cond (.t 88) (.seq (.ops 7 [ (0,⟨some 90,none,.fadd 7 (.t 2)⟩),(1,⟨some 91,none,.load none (.t 90)⟩),(2,⟨some 92,none,.idxS 8 (.t 91) (.k (.d (.val (.int .i64 0))))⟩),(3,⟨some 93,none,.load (some 8) (.t 92)⟩),(4,⟨some 94,none,.mv (.t 1)⟩),(5,⟨some 95,none,.call 49 [(.t 93),(.t 94)] none false⟩),(6,⟨some 10,none,.mv (.t 95)⟩)] (some [1,2,5,10])) (.seq (.ops 4 [ (0,⟨some 96,none,.mv (.t 1)⟩),(1,⟨some 97,none,.arith .add (.t 96) (.k (.d (.val (.int .i64 1))))⟩),(2,⟨some 98,none,.mks [(.bool false)] 1 (.t 97) (.t 97)⟩),(3,⟨some 11,none,.mv (.t 98)⟩)] (some [1,2,5,10,11])) (.seq (.ops 3 [ (0,⟨some 99,none,.mv (.t 11)⟩),(1,⟨some 100,none,.idxS 1 (.t 99) (.k (.d (.val (.int .i64 0))))⟩),(2,⟨none,none,.store 1 (.t 100) (.k (.d (.val (.bool true))))⟩)] (some [1,2,5,10,11])) (.seq (.ops 3 [ (0,⟨some 101,none,.fadd 6 (.t 2)⟩),(1,⟨some 102,none,.load none (.t 101)⟩),(2,⟨some 12,none,.mv (.t 102)⟩)] (some [1,2,5,10,11,12])) (.seq (.seq (.ops 2 [ (0,⟨some 103,none,.mv (.t 12)⟩),(1,⟨some 104,none,.arith .lss (.t 103) (.k (.d (.val (.int .i64 0))))⟩)] (some [1,2,5,10,11,12,104])) (.cond (.t 104) (.ops 5 [ (0,⟨some 105,none,.fadd 5 (.t 2)⟩),(1,⟨some 106,none,.load none (.t 105)⟩),(2,⟨some 107,none,.mv (.t 1)⟩),(3,⟨some 108,none,.arith .add (.t 106) (.t 107)⟩),(4,⟨some 12,none,.mv (.t 108)⟩)] (some [1,2,5,10,11,12])) .skip)) (.seq (.ops 1 [ (0,⟨some 13,none,.mv (.k (.d (.val (.int .i64 0))))⟩)] (some [1,2,5,10,11,12,13])) (.block 7 (.loop (.seq (.seq (.ops 3 [ (0,⟨some 109,none,.mv (.t 13)⟩),(1,⟨some 110,none,.mv (.t 12)⟩),(2,⟨some 111,none,.arith .leq (.t 109) (.t 110)⟩)] (some [1,2,5,10,11,12,13,111])) (.cond (.t 111) .skip (.exit 7))) (.seq (.block 8 (.seq (.seq (.ops 4 [ (0,⟨some 114,none,.mv (.t 13)⟩),(1,⟨some 115,none,.fadd 5 (.t 2)⟩),(2,⟨some 116,none,.load none (.t 115)⟩),(3,⟨some 117,none,.arith .geq (.t 114) (.t 116)⟩)] (some [1,2,5,10,11,12,13,117])) (.cond (.t 117) (.seq (.ops 1 [ (0,⟨some 14,none,.mv (.k (.d (.val (.int .i64 0))))⟩)] (some [1,2,5,10,11,12,13,14])) (.block 9 (.loop (.seq (.seq (.ops 3 [ (0,⟨some 118,none,.mv (.t 14)⟩),(1,⟨some 119,none,.mv (.t 1)⟩),(2,⟨some 120,none,.arith .leq (.t 118) (.t 119)⟩)] (some [1,2,5,10,11,12,13,14,120])) (.cond (.t 120) .skip (.exit 9))) (.seq (.block 10 (.ops 14 [ (0,⟨some 123,none,.mv (.t 5)⟩),(1,⟨some 124,none,.mv (.t 14)⟩),(2,⟨some 125,none,.mv (.t 5)⟩),(3,⟨some 126,none,.mv (.t 14)⟩),(4,⟨some 127,none,.idxS 1 (.t 125) (.t 126)⟩),(5,⟨some 128,none,.load none (.t 127)⟩),(6,⟨some 129,none,.mv (.t 128)⟩),(7,⟨some 130,(some (129,false)),.mv (.t 11)⟩),(8,⟨some 131,(some (129,false)),.mv (.t 14)⟩),(9,⟨some 132,(some (129,false)),.idxS 1 (.t 130) (.t 131)⟩),(10,⟨some 133,(some (129,false)),.load none (.t 132)⟩),(11,⟨some 134,none,.pick (.t 129) (.k (.d (.val (.bool true)))) (.t 133)⟩),(12,⟨some 135,none,.idxS 1 (.t 123) (.t 124)⟩),(13,⟨none,none,.store 1 (.t 135) (.t 134)⟩)] (some [1,2,5,10,11,12,13,14]))) (.ops 3 [ (0,⟨some 121,none,.mv (.t 14)⟩),(1,⟨some 122,none,.arith .add (.t 121) (.k (.d (.val (.int .i64 1))))⟩),(2,⟨some 14,none,.mv (.t 122)⟩)] (some [1,2,5,10,11,12,13,14]))))))) .skip)) (.ops 4 [ (0,⟨some 136,none,.mv (.t 11)⟩),(1,⟨some 137,none,.mv (.t 10)⟩),(2,⟨some 138,none,.call 98 [(.t 136),(.t 137)] none false⟩),(3,⟨some 11,none,.mv (.t 138)⟩)] (some [1,2,5,10,11,12,13])))) (.ops 3 [ (0,⟨some 112,none,.mv (.t 13)⟩),(1,⟨some 113,none,.arith .add (.t 112) (.k (.d (.val (.int .i64 1))))⟩),(2,⟨some 13,none,.mv (.t 113)⟩)] (some [1,2,5,10,11,12,13])))))))))))) .skip)))))))))))) (.seq (.ops 2 [ (0,⟨some 139,none,.mv (.t 5)⟩),(1,⟨some 4,none,.mv (.t 139)⟩)] (some [4])) .ret))))
def md49 : FuncId→Option Nat × Bool
  | _=>(none,false)
def od49 : Nat→List (List Nat) × List Nat × Option (List Nat)
  | 0=>([],[],some [1,2])
  | 1=>([],[],some [1,2,5])
  | 2=>([],[],some [1,2,5,19])
  | 3=>([],[],some [1,2,5,19,20])
  | 4=>([],[],some [5])
  | 5=>([],[],some [1,2,5,19,24])
  | 6=>([],[],some [2,5,27])
  | 7=>([],[],some [5])
  | 8=>([],[],some [1,2,5,19,34])
  | 9=>([],[],some [1,2,5])
  | 10=>([],[],some [1,2,5,6])
  | 11=>([],[],some [1,2,5,6,42])
  | 12=>([],[],some [1,2,5,6])
  | 13=>([],[],some [1,2,5,6])
  | 14=>([],[],some [1,2,5,19,54])
  | 15=>([],[],some [1,2,5,7])
  | 16=>([],[],some [1,2,5,7,60])
  | 17=>([],[],some [1,2,5,7])
  | 18=>([],[],some [1,2,5,7,8])
  | 19=>([],[],some [1,2,5,7,8,9])
  | 20=>([],[],some [1,2,5,7,8,9,72])
  | 21=>([],[],some [1,2,5,7,8,9])
  | 22=>([],[],some [1,2,5,7,8,9])
  | 23=>([],[],some [1,2,5,88])
  | 24=>([],[],some [1,2,5,10])
  | 25=>([],[],some [1,2,5,10,11])
  | 26=>([],[],some [1,2,5,10,11])
  | 27=>([],[],some [1,2,5,10,11,12])
  | 28=>([],[],some [1,2,5,10,11,12,104])
  | 29=>([],[],some [1,2,5,10,11,12])
  | 30=>([],[],some [1,2,5,10,11,12,13])
  | 31=>([],[],some [1,2,5,10,11,12,13,111])
  | 32=>([],[],some [1,2,5,10,11,12,13])
  | 33=>([],[],some [1,2,5,10,11,12,13,117])
  | 34=>([],[],some [1,2,5,10,11,12,13,14])
  | 35=>([],[],some [1,2,5,10,11,12,13,14,120])
  | 36=>([],[],some [1,2,5,10,11,12,13,14])
  | 37=>([],[],some [1,2,5,10,11,12,13,14])
  | 38=>([],[],some [1,2,5,10,11,12,13])
  | 39=>([],[],some [4])
  | _=>([],[],none)
theorem b49 {ags : List AV} {row : Option (List DV)} {r : AV} {row' nw : Option (List DV)} (hal : ags.length≤140) (hrow : row'.isSome=true→row.isSome=true) (h : xwp Try.prog x49 (retK [.tmp 4] row.isSome r row' nw) (St.init ags row)) : Good Try.prog 49 ags row r row' nw :=
  good_of_body' (md:=md49) (od:=od49) Try.f49 (by kernel_rfl) (by kernel_rfl) (by kernel_rfl) (by kernel_rfl) (by kernel_rfl) hal hrow h

def x72 : XC:=(.seq (.ops 2 [ (0,⟨some 1,none,.box (.t 0)⟩),(1,⟨some 2,none,.mv (.k (.d (.val (.bool false))))⟩)] (some [1])) (.seq (.ops 5 [ (0,⟨some 3,none,.load (some 8) (.t 1)⟩),(1,⟨some 4,none,.call 49 [(.t 3),(.k (.d (.val (.int .i64 0))))] none false⟩),(2,⟨some 5,none,.idxS 1 (.t 4) (.k (.d (.val (.int .i64 0))))⟩),(3,⟨some 6,none,.load none (.t 5)⟩),(4,⟨some 2,none,.mv (.t 6)⟩)] (some [2])) .ret))
def md72 : FuncId→Option Nat × Bool
  | _=>(none,false)
def od72 : Nat→List (List Nat) × List Nat × Option (List Nat)
  | 0=>([],[],some [1])
  | 1=>([],[],some [2])
  | _=>([],[],none)
theorem b72 {ags : List AV} {row : Option (List DV)} {r : AV} {row' nw : Option (List DV)} (hal : ags.length≤7) (hrow : row'.isSome=true→row.isSome=true) (h : xwp Try.prog x72 (retK [.tmp 2] row.isSome r row' nw) (St.init ags row)) : Good Try.prog 72 ags row r row' nw :=
  good_of_body' (md:=md72) (od:=od72) Try.f72 (by kernel_rfl) (by kernel_rfl) (by kernel_rfl) (by kernel_rfl) (by kernel_rfl) hal hrow h

theorem catL_snoc (l : List T) (t : T) (w : List Nat) : catL (l++[t]) w↔∃ u v,w=u++v∧catL l u∧L t v:=by
  rw [catL_app];simp only [catL_one]
theorem altL_snoc (l : List T) (t : T) (w : List Nat) : altL (l++[t]) w↔altL l w ∨ L t w:=by
  rw [altL_app];simp only [altL,or_false]
theorem powL_snoc (P : List Nat→Prop) (k : Nat) (w : List Nat) : powL P (k + 1) w↔∃ u v,w=u++v∧powL P k u∧P v:=by
  rw [powL_add];simp only [powL_one]
def Ored (p q p2 : List Bool) (k : Nat) : Prop:=p2.length=p.length∧∀ n,At p2 n↔At p n ∨ (n < k∧At q n)
theorem Ored.zero (p q : List Bool) : Ored p q p 0:=⟨rfl,fun n=>⟨.inl,fun h=>h.elim id fun h=>absurd h.1 (by omega)⟩⟩
theorem Ored.step {p q p2 : List Bool} {k : Nat} (h : Ored p q p2 k) (hk : k < p.length) : Ored p q (p2.set k (p2.getD k false || q.getD k false)) (k + 1):=by
  refine ⟨by rw [List.length_set];exact h.1,fun n=>?_⟩
  rw [at_set n (by rw [h.1];exact hk),h.2 n]
  have hv : (p2.getD k false || q.getD k false)=true↔At p2 k ∨ At q k:=by simp [At]
  rw [hv,h.2 k]
  constructor
  · rintro (⟨rfl,(h1 | h1) | h1⟩ | ⟨h1,h2 | h2⟩)
    · exact .inl h1
    · exact .inr ⟨by omega,h1.2⟩
    · exact .inr ⟨by omega,h1⟩
    · exact .inl h2
    · exact .inr ⟨by omega,h2.2⟩
  · rintro (h1 | ⟨h1,h2⟩)
    · by_cases e : n=k
      · subst e;exact .inl ⟨rfl,.inl (.inl h1)⟩
      · exact .inr ⟨e,.inl h1⟩
    · by_cases e : n=k
      · subst e;exact .inl ⟨rfl,.inr h2⟩
      · exact .inr ⟨e,.inr ⟨by omega,h2⟩⟩
set_option maxRecDepth 100000
set_option maxHeartbeats 4000000
attribute [local irreducible] W E R KP thenK blockK retK Good xwp aRun
theorem len49_good : ∀ (n : Nat) (t : T),t.cnt≤n→n≤1000000→okT t→∀ m : Nat,m≤1000→Good Try.prog 49 [nodeA t,.i m] none (.d (.sl (encB (lenS (L t) m)) (m + 1))) none none:=by
  intro n
  induction n with
  | zero=>intro t ht;have:=cnt_pos t;omega
  | succ n ih =>
  intro t ht hc hok m hm
  have hS:=okT_S hok
  obtain ⟨k,a,b,c,d,mn,mx,subs⟩:=t
  have hR:=okT_R hok
  have hoks:=okT_subs hok
  have hpl:=okT_plain hok
  have ih' : ∀ i (h : i < subs.length),Good Try.prog 49 [nodeA subs[i],.i m] none (.d (.sl (encB (lenS (L subs[i]) m)) (m + 1))) none none:=by
    intro i h
    refine ih _ ?_ (by omega) (okL_get subs i h hoks) m hm
    have:=cntL_get subs i h
    simp only [T.cnt] at ht
    omega
  have hlen : subs.length≤1000000:=by
    have:=cntL_len subs
    simp only [T.cnt] at ht
    omega
  have e0 : nodeA (.node k a b c d mn mx subs)=.agg [.i k,.d (.val (.int .u64 a)),.d (.val (.int .u64 b)),.d (.val (.int .u64 c)),.d (.val (.int .u64 d)),.i mn,.i mx,.d (.sl (encL subs) subs.length)]:=rfl
  have hkind:=(plainT_kind hpl).1
  have hk5 : k=5→∃ u,subs=[u]:=fun h5=>by subst h5;exact plainT_5 hpl
  have hr0 : (List.replicate (m + 1) false).length=m + 1:=List.length_replicate
  clear ih ht hok hoks hpl
  rw [e0]
  by_cases h1 : k=1
  · have e : (List.replicate (m + 1) false).set 0 true=lenS (L (.node k a b c d mn mx subs)) m:=by
      refine lenS_eq (by simp) fun j hj=>?_
      rw [at_set j (by simp)]
      subst h1
      simp only [L_k1]
      constructor
      · rintro (⟨rfl,_⟩ | ⟨_,h⟩)
        · exact ⟨[],rfl,rfl⟩
        · exact absurd h (at_rep _ _)
      · rintro ⟨w,rfl,h⟩;exact .inl ⟨h.symm,by simp⟩
    rw [← e]
    refine b49 (by simp) (by simp) (w_init ?_)
    unfold x49
    repeat' (first|(apply r_mvV;rfl)|(apply r_mvSL;rfl)|(apply r_faddL;rfl)|(apply r_mksB (m:=m + 1);rfl;rfl;((conv=>lhs;simp only [Nat.reduceAdd])<;>rfl);omega;omega)|(apply r_ixL (j:=0);rfl;rfl;omega)|(apply r_stB (j:=0);rfl;rfl;rfl;rfl;omega)|(apply r_ldL;rfl;rfl;rfl)|(apply r_eql;rfl;rfl;(first|(apply dT;omega)|(apply dF;omega)|rfl))|(apply r_add;rfl;rfl;rfl;omega)|(apply r_box;((conv=>lhs;simp only [Nat.reduceAdd])<;>rfl);rfl;rfl;rfl)|(apply r_nilK)|(apply k_V;rfl)|(apply k_PL;rfl)|(apply k_SL;rfl)|(apply k_nil)|(apply e_ret;rfl)|(apply w_seq)|(apply w_ops;((conv=>lhs;simp only [Nat.reduceAdd])<;>rfl))|(apply w_condT;rfl)|(apply e_thenN)|(apply w_block)|(apply e_blkN)|(apply w_ret))
    exact retSB rfl (by simp)
  by_cases h2 : k=2
  · by_cases hm1 : 1≤m
    · have e : (List.replicate (m + 1) false).set 1 (!isZero a b c d)=lenS (L (.node k a b c d mn mx subs)) m:=by
        refine lenS_eq (by simp) fun j hj=>?_
        rw [at_set j (by simp;omega)]
        subst h2
        simp only [L_k2]
        have hz:=zero_iff hS.1 hS.2.1 hS.2.2.1 hS.2.2.2
        constructor
        · rintro (⟨rfl,h⟩ | ⟨_,h⟩)
          · have hz2 : ¬ ∀ x,x < 256→inG a b c d x=false:=fun h3=>by rw [hz.2 h3] at h;cases h
            have : ∃ x,inG a b c d x=true:=Classical.byContradiction fun hc=>hz2 fun x _=>by
              cases e : inG a b c d x with
              | false=>rfl
              | true=>exact absurd ⟨x,e⟩ hc
            obtain ⟨x,hx⟩:=this
            exact ⟨[x],⟨x,rfl,hx⟩,rfl⟩
          · exact absurd h (at_rep _ _)
        · rintro ⟨w,⟨x,rfl,hx⟩,h⟩
          refine .inl ⟨h.symm,?_⟩
          cases e : isZero a b c d with
          | false=>rfl
          | true=>rw [hz.1 e x (inG_lt hx)] at hx;cases hx
      rw [← e]
      refine b49 (by simp) (by simp) (w_init ?_)
      unfold x49
      repeat' (first|(apply r_mvV;rfl)|(apply r_mvSL;rfl)|(apply r_faddL;rfl)|(apply r_mksB (m:=m + 1);rfl;rfl;((conv=>lhs;simp only [Nat.reduceAdd])<;>rfl);omega;omega)|(apply r_ldL (v:=.agg [.d (.val (.int .u64 a)),.d (.val (.int .u64 b)),.d (.val (.int .u64 c)),.d (.val (.int .u64 d))]);rfl;rfl;rfl)|(apply r_p (v:=.agg [.d (.val (.int .u64 0)),.d (.val (.int .u64 0)),.d (.val (.int .u64 0)),.d (.val (.int .u64 0))]);rfl)|(apply r_eqX (r:=!isZero a b c d);rfl;rfl;rfl)|(apply r_ixL (j:=1);rfl;rfl;omega)|(apply r_stB (j:=1);rfl;rfl;rfl;rfl;omega)|(apply r_ldL;rfl;rfl;rfl)|(apply r_eql;rfl;rfl;(first|(apply dT;omega)|(apply dF;omega)|rfl))|(apply r_geq;rfl;rfl;(first|(apply dT;omega)|(apply dF;omega)|rfl))|(apply r_add;rfl;rfl;rfl;omega)|(apply r_box;((conv=>lhs;simp only [Nat.reduceAdd])<;>rfl);rfl;rfl;rfl)|(apply r_nilK)|(apply k_V;rfl)|(apply k_PL;rfl)|(apply k_SL;rfl)|(apply k_nil)|(apply e_ret;rfl)|(apply w_seq)|(apply w_ops;((conv=>lhs;simp only [Nat.reduceAdd])<;>rfl))|(apply w_condT;rfl)|(apply w_condF;rfl)|(apply e_thenN)|(apply w_block)|(apply e_blkN)|(apply w_ret))
      exact retSB rfl (by simp)
    · have e : List.replicate (m + 1) false=lenS (L (.node k a b c d mn mx subs)) m:=by
        refine lenS_eq (by simp) fun j hj=>?_
        subst h2
        simp only [L_k2]
        constructor
        · intro h;exact absurd h (at_rep _ _)
        · rintro ⟨w,⟨x,rfl,hx⟩,h⟩;simp at h;omega
      rw [← e]
      refine b49 (by simp) (by simp) (w_init ?_)
      unfold x49
      repeat' (first|(apply r_mvV;rfl)|(apply r_mvSL;rfl)|(apply r_faddL;rfl)|(apply r_mksB (m:=m + 1);rfl;rfl;((conv=>lhs;simp only [Nat.reduceAdd])<;>rfl);omega;omega)|(apply r_ldL;rfl;rfl;rfl)|(apply r_eql;rfl;rfl;(first|(apply dT;omega)|(apply dF;omega)|rfl))|(apply r_geq;rfl;rfl;(first|(apply dT;omega)|(apply dF;omega)|rfl))|(apply r_add;rfl;rfl;rfl;omega)|(apply r_box;((conv=>lhs;simp only [Nat.reduceAdd])<;>rfl);rfl;rfl;rfl)|(apply r_nilK)|(apply k_V;rfl)|(apply k_PL;rfl)|(apply k_SL;rfl)|(apply k_nil)|(apply e_ret;rfl)|(apply w_seq)|(apply w_ops;((conv=>lhs;simp only [Nat.reduceAdd])<;>rfl))|(apply w_condT;rfl)|(apply w_condF;rfl)|(apply e_thenN)|(apply w_block)|(apply e_blkN)|(apply w_ret)|(apply w_skip))
      exact retSB rfl (by simp)
  by_cases h3 : k=3
  · have e : (List.replicate (m + 1) false).set 0 true=lenS (catL (subs.take 0)) m:=by
      refine lenS_eq (by simp) fun j hj=>?_
      rw [at_set j (by simp)]
      simp only [List.take_zero,catL]
      constructor
      · rintro (⟨rfl,_⟩ | ⟨_,h⟩)
        · exact ⟨[],rfl,rfl⟩
        · exact absurd h (at_rep _ _)
      · rintro ⟨w,rfl,h⟩;exact .inl ⟨h.symm,by simp⟩
    refine b49 (by simp) (by simp) (w_init ?_)
    unfold x49
    repeat' (first|(apply r_mvV;rfl)|(apply r_mvSL;rfl)|(apply r_faddL;rfl)|(apply r_mksB (m:=m + 1);rfl;rfl;((conv=>lhs;simp only [Nat.reduceAdd])<;>rfl);omega;omega)|(apply r_ixL (j:=0);rfl;rfl;omega)|(apply r_stB (j:=0);rfl;rfl;rfl;rfl;omega)|(apply r_ldL;rfl;rfl;rfl)|(apply r_eql;rfl;rfl;(first|(apply dT;omega)|(apply dF;omega)|rfl))|(apply r_add;rfl;rfl;rfl;omega)|(apply r_box;((conv=>lhs;simp only [Nat.reduceAdd])<;>rfl);rfl;rfl;rfl)|(apply r_nilK)|(apply k_V;rfl)|(apply k_PL;rfl)|(apply k_SL;rfl)|(apply k_nil)|(apply w_seq)|(apply w_ops;((conv=>lhs;simp only [Nat.reduceAdd])<;>rfl))|(apply w_condT;rfl)|(apply w_condF;rfl)|(apply e_thenN)|(apply w_block))
    apply w_loopF (S:=fun i : Nat=>⟨(((Fr.nil.put 1 (.i m)).put 2 (.ptrL 1 0)).put 5 (.d (.sl (encB (lenS (catL (subs.take i)) m)) (m + 1)))).put 6 (.i i),rowsOf [(1,[.i k,.d (.val (.int .u64 a)),.d (.val (.int .u64 b)),.d (.val (.int .u64 c)),.d (.val (.int .u64 d)),.i mn,.i mx,.d (.sl (encL subs) subs.length)])],Frz.buts 100 [],100⟩) (m:=fun i=>subs.length - i) (I:=fun i=>i≤subs.length) (i0:=0)
    · exact Nat.zero_le _
    · refine fzB (k:=5) (b:=5) (m:=m + 1) (p:=(List.replicate (m + 1) false).set 0 true) rfl rfl (by simp) (by omega) ?_
      rw [e]
      refine wkM [] [] rfl ?_ ?_ rfl ?_
      · intro p hp
        simp only [List.mem_cons,List.not_mem_nil,or_false] at hp
        rcases hp with rfl
        exact ⟨by omega,.inr ⟨rfl,_,rfl,.data rfl⟩⟩
      · intro q hq;simp at hq
      · repeat' (first|exact FWk.nil|(apply FWk.i;rfl;(first|rfl|omega|(simp;done)))|(apply FWk.ptr;rfl;rfl;rfl;omega;rfl)|(apply FWk.d;rfl;rfl))
    intro i K hi hK
    dsimp only
    rcases Nat.lt_or_ge i subs.length with hlt | hge
    · have hs:=NodeAt.sub hlt
      have hg:=ih' i hlt
      have hj:=join98_good (lenS (catL (subs.take i)) m) (lenS (L subs[i]) m) (lenS_len _ _) (lenS_len _ _) (by omega)
      have ej : joinB (lenS (catL (subs.take i)) m) (lenS (L subs[i]) m)=lenS (catL (subs.take (i + 1))) m:=by
        rw [joinB_lenS]
        refine lenS_congr (fun w=>?_) m
        rw [List.take_succ_eq_append_getElem hlt,catL_snoc]
      rw [ej] at hj
      have hna : [nodeA subs[i],.i m].all AV.nrm=true:=by rw [List.all_cons,nodeA_nrm];rfl
      repeat' (first|(apply r_mvV;rfl)|(apply r_mvS;rfl)|(apply r_faddL;rfl)|(apply r_l;apply ld_node';assumption;rfl)|(apply r_p;apply ix_sub;rfl;rfl;omega)|(apply r_callA (ags:=[nodeA subs[i],.i m]);rfl;exact hna;exact hg)|(apply r_callA;rfl;rfl;exact hj)|(apply r_ldL;rfl;rfl;rfl)|(apply r_lss;rfl;rfl;(first|(apply dT;omega)|(apply dF;omega)|rfl))|(apply r_add;rfl;rfl;rfl;omega)|(apply r_lenD;rfl)|(apply r_nilK)|(apply k_V;rfl)|(apply k_PL;rfl)|(apply k_S;rfl)|(apply k_nil)|(apply w_seq)|(apply w_ops;((conv=>lhs;simp only [Nat.reduceAdd])<;>rfl))|(apply w_condT;rfl)|(apply e_thenN)|(apply w_block)|(apply e_blkN)|(apply w_skip))
      apply e_thenK
      apply hK (i + 1)
      · omega
      · omega
      · refine Wk.f (wkM [] [] rfl ?_ ?_ rfl ?_)
        · intro p hp
          simp only [List.mem_cons,List.not_mem_nil,or_false] at hp
          rcases hp with rfl
          exact ⟨by omega,.inr ⟨rfl,_,rfl,.data rfl⟩⟩
        · intro q hq;simp at hq
        · repeat' (first|exact FWk.nil|(apply FWk.i;rfl;(first|rfl|omega|(simp;done)))|(apply FWk.ptr;rfl;rfl;rfl;omega;rfl)|(apply FWk.d;rfl;rfl))
    · have ei : i=subs.length:=by omega
      subst ei
      repeat' (first|(apply r_mvV;rfl)|(apply r_mvS;rfl)|(apply r_faddL;rfl)|(apply r_ldL;rfl;rfl;rfl)|(apply r_lss;rfl;rfl;(first|(apply dT;omega)|(apply dF;omega)|rfl))|(apply r_lenD;rfl)|(apply r_nilK)|(apply k_V;rfl)|(apply k_PL;rfl)|(apply k_S;rfl)|(apply k_nil)|(apply e_ret;rfl)|(apply w_seq)|(apply w_ops;((conv=>lhs;simp only [Nat.reduceAdd])<;>rfl))|(apply w_condF;rfl)|(apply e_thenN)|(apply e_thenX)|(apply e_blkN)|(apply e_blkE)|(apply w_exit)|(apply w_ret))
      refine retSD ?_
      rw [List.take_length]
      refine lenS_congr (fun w=>?_) m
      subst h3
      rw [L_k3]
  by_cases h4 : k=4
  · have e : List.replicate (m + 1) false=lenS (altL (subs.take 0)) m:=by
      refine lenS_eq (by simp) fun j hj=>?_
      simp only [List.take_zero,altL]
      constructor
      · intro h;exact absurd h (at_rep _ _)
      · rintro ⟨w,h,_⟩;exact h.elim
    refine b49 (by simp) (by simp) (w_init ?_)
    unfold x49
    repeat' (first|(apply r_mvV;rfl)|(apply r_mvSL;rfl)|(apply r_faddL;rfl)|(apply r_mksB (m:=m + 1);rfl;rfl;((conv=>lhs;simp only [Nat.reduceAdd])<;>rfl);omega;omega)|(apply r_ldL;rfl;rfl;rfl)|(apply r_eql;rfl;rfl;(first|(apply dT;omega)|(apply dF;omega)|rfl))|(apply r_add;rfl;rfl;rfl;omega)|(apply r_box;((conv=>lhs;simp only [Nat.reduceAdd])<;>rfl);rfl;rfl;rfl)|(apply r_nilK)|(apply k_V;rfl)|(apply k_PL;rfl)|(apply k_SL;rfl)|(apply k_nil)|(apply w_seq)|(apply w_ops;((conv=>lhs;simp only [Nat.reduceAdd])<;>rfl))|(apply w_condT;rfl)|(apply w_condF;rfl)|(apply e_thenN)|(apply w_block))
    apply w_loopI (S:=fun i : Nat=>⟨(((Fr.nil.put 1 (.i m)).put 2 (.ptrL 1 0)).put 5 (.slL 50 0 (m + 1) 1)).put 7 (.i i),rowsOf [(1,[.i k,.d (.val (.int .u64 a)),.d (.val (.int .u64 b)),.d (.val (.int .u64 c)),.d (.val (.int .u64 d)),.i mn,.i mx,.d (.sl (encL subs) subs.length)]),(50,(encB (lenS (altL (subs.take i)) m)).map AV.d)],Frz.buts 100 [50],100⟩) (m:=fun i=>subs.length - i) (I:=fun i=>i≤subs.length) (i0:=0)
    · exact Nat.zero_le _
    · rw [← e]
      refine wkM [(50,5)] [] rfl ?_ ?_ rfl ?_
      · intro p hp;simp only [List.mem_cons,List.not_mem_nil,or_false] at hp;rcases hp with rfl | rfl<;>first | exact ⟨by omega,.inr ⟨rfl,_,rfl,.data rfl⟩⟩ | exact ⟨by omega,.inr ⟨rfl,_,rfl,.data encB_isD⟩⟩
      · intro q hq;simp only [List.mem_cons,List.not_mem_nil,or_false] at hq;rcases hq with rfl<;>rfl
      · repeat' (first|exact FWk.nil|(apply FWk.i;rfl;(first|rfl|omega|(simp;done)))|(apply FWk.sl;rfl;rfl;rfl;rfl;omega;rfl)|(apply FWk.ptr;rfl;rfl;rfl;omega;rfl))
    intro i K hi hK
    dsimp only
    rcases Nat.lt_or_ge i subs.length with hlt | hge
    · have hs:=NodeAt.sub hlt
      have hg:=ih' i hlt
      have hna : [nodeA subs[i],.i m].all AV.nrm=true:=by rw [List.all_cons,nodeA_nrm];rfl
      have hfin : ∀ p2,Ored (lenS (altL (subs.take i)) m) (lenS (L subs[i]) m) p2 (m + 1)→p2=lenS (altL (subs.take (i + 1))) m:=by
        intro p2 h
        refine lenS_eq (h.1.trans (lenS_len _ _)) fun j hj=>?_
        rw [h.2 j,at_lenS,at_lenS,List.take_succ_eq_append_getElem hlt]
        simp only [altL_snoc]
        constructor
        · rintro (⟨_,w,hw,hl⟩ | ⟨_,_,w,hw,hl⟩)
          · exact ⟨w,.inl hw,hl⟩
          · exact ⟨w,.inr hw,hl⟩
        · rintro ⟨w,hw | hw,hl⟩
          · exact .inl ⟨hj,w,hw,hl⟩
          · exact .inr ⟨by omega,hj,w,hw,hl⟩
      have hql:=lenS_len (L subs[i]) m
      have hpl:=lenS_len (altL (subs.take i)) m
      generalize lenS (L subs[i]) m=q at hg hfin hql
      generalize lenS (altL (subs.take i)) m=p at hfin hpl ⊢
      repeat' (first|(apply r_mvV;rfl)|(apply r_mvS;rfl)|(apply r_faddL;rfl)|(apply r_l;apply ld_node';assumption;rfl)|(apply r_p;apply ix_sub;rfl;rfl;omega)|(apply r_callA (ags:=[nodeA subs[i],.i m]);rfl;exact hna;exact hg)|(apply r_ldL;rfl;rfl;rfl)|(apply r_lss;rfl;rfl;(first|(apply dT;omega)|(apply dF;omega)|rfl))|(apply r_lenD;rfl)|(apply r_nilK)|(apply k_V;rfl)|(apply k_PL;rfl)|(apply k_S;rfl)|(apply k_SL;rfl)|(apply k_nil)|(apply w_seq)|(apply w_ops;((conv=>lhs;simp only [Nat.reduceAdd])<;>rfl))|(apply w_condT;rfl)|(apply e_thenN)|(apply w_block)|(apply w_skip))
      apply w_loopI (ι:=Nat × List Bool) (S:=fun z=>⟨(((((Fr.nil.put 1 (.i m)).put 2 (.ptrL 1 0)).put 5 (.slL 50 0 (m + 1) 1)).put 7 (.i i)).put 8 (.d (.sl (encB q) (m + 1)))).put 9 (.i z.1),rowsOf [(1,[.i k,.d (.val (.int .u64 a)),.d (.val (.int .u64 b)),.d (.val (.int .u64 c)),.d (.val (.int .u64 d)),.i mn,.i mx,.d (.sl (encL subs) subs.length)]),(50,(encB z.2).map AV.d)],Frz.buts 200 [50],200⟩) (m:=fun z=>m + 1 - z.1) (I:=fun z=>z.1≤m + 1∧Ored p q z.2 z.1) (i0:=(0,p))
      · exact ⟨Nat.zero_le _,.zero _ _⟩
      · dsimp only
        refine wkM [] [] rfl ?_ ?_ rfl ?_
        · intro p hp;simp only [List.mem_cons,List.not_mem_nil,or_false] at hp;rcases hp with rfl | rfl<;>first | exact ⟨by omega,.inr ⟨rfl,_,rfl,.data rfl⟩⟩ | exact ⟨by omega,.inr ⟨rfl,_,rfl,.data encB_isD⟩⟩
        · intro q hq;simp only [List.mem_cons,List.not_mem_nil,or_false] at hq;rcases hq with rfl<;>rfl
        · repeat' (first|exact FWk.nil|(apply FWk.i;rfl;(first|rfl|omega|(simp;done)))|(apply FWk.sl;rfl;rfl;rfl;rfl;omega;rfl)|(apply FWk.ptr;rfl;rfl;rfl;omega;rfl)|(apply FWk.d;rfl;rfl))
      rintro ⟨j,p2⟩ K2 ⟨hj,ho⟩ hK2
      dsimp only at hj ho hK2 ⊢
      have hp2 : p2.length=m + 1:=ho.1.trans hpl
      rcases Nat.lt_or_ge j (m + 1) with hlj | hgj
      · have hgp : p2[j]?=some (p2.getD j false):=by rw [List.getD_eq_getElem?_getD,List.getElem?_eq_getElem (by omega)];rfl
        have hgq : q[j]?=some (q.getD j false):=by rw [List.getD_eq_getElem?_getD,List.getElem?_eq_getElem (by omega)];rfl
        have hst:=ho.step (by omega)
        have fin : ∀ v fr C Z nx,v=(p2.getD j false || q.getD j false)→Wk ⟨fr,C,Z,nx⟩ ⟨(((((Fr.nil.put 1 (.i m)).put 2 (.ptrL 1 0)).put 5 (.slL 50 0 (m + 1) 1)).put 7 (.i i)).put 8 (.d (.sl (encB q) (m + 1)))).put 9 (.i ((j + 1 : Nat) : Int)),rowsOf [(1,[.i k,.d (.val (.int .u64 a)),.d (.val (.int .u64 b)),.d (.val (.int .u64 c)),.d (.val (.int .u64 d)),.i mn,.i mx,.d (.sl (encL subs) subs.length)]),(50,(encB (p2.set j v)).map AV.d)],Frz.buts 200 [50],200⟩→K2 ⟨fr,C,Z,nx⟩:=by
          intro v fr C Z nx hv hw
          subst hv
          exact hK2 (j + 1,_) fr C Z nx ⟨by dsimp only;omega,hst⟩ (by dsimp only;omega) hw
        generalize p2.getD j false=v1 at hgp fin
        generalize q.getD j false=v2 at hgq fin
        cases v1
        all_goals
          repeat' (first|(apply r_mvV;rfl)|(apply r_mvS;rfl)|(apply r_mvSL;rfl)|(apply r_ixL (j:=j);rfl;rfl;omega)|(apply r_ldBL (j:=j);rfl;rfl;exact hgp)|(apply r_ixB' (j:=j);rfl;rfl;exact hlj;exact hql)|(apply r_ldB (j:=j);rfl;exact hgq)|(apply r_stB (j:=j);rfl;rfl;rfl;rfl;omega)|(apply r_leq;rfl;rfl;(first|(apply dT;omega)|(apply dF;omega)|rfl))|(apply r_add;rfl;rfl;rfl;omega)|(apply r_pickT;rfl)|(apply r_pickF;rfl)|(apply r_gT;rfl)|(apply r_gF';rfl;rfl)|(apply r_nilK)|(apply k_V;rfl)|(apply k_PL;rfl)|(apply k_S;rfl)|(apply k_SL;rfl)|(apply k_nil)|(apply w_seq)|(apply w_ops;((conv=>lhs;simp only [Nat.reduceAdd])<;>rfl))|(apply w_condT;rfl)|(apply e_thenN)|(apply w_block)|(apply e_blkN)|(apply w_skip))
          apply e_thenK
          refine fin _ _ _ _ _ (by first | rfl | simp) ?_
          refine wkM [] [] rfl ?_ ?_ rfl ?_
          · intro p hp;simp only [List.mem_cons,List.not_mem_nil,or_false] at hp;rcases hp with rfl | rfl<;>first | exact ⟨by omega,.inr ⟨rfl,_,rfl,.data rfl⟩⟩ | exact ⟨by omega,.inr ⟨rfl,_,rfl,.data encB_isD⟩⟩
          · intro q hq;simp only [List.mem_cons,List.not_mem_nil,or_false] at hq;rcases hq with rfl<;>rfl
          · repeat' (first|exact FWk.nil|(apply FWk.i;rfl;(first|rfl|omega|(simp;done)))|(apply FWk.sl;rfl;rfl;rfl;rfl;omega;rfl)|(apply FWk.ptr;rfl;rfl;rfl;omega;rfl)|(apply FWk.d;rfl;rfl))
      · have ej : j=m + 1:=by omega
        subst ej
        have e2:=hfin p2 ho
        repeat' (first|(apply r_mvV;rfl)|(apply r_leq;rfl;rfl;(first|(apply dT;omega)|(apply dF;omega)|rfl))|(apply r_add;rfl;rfl;rfl;omega)|(apply r_nilK)|(apply k_V;rfl)|(apply k_PL;rfl)|(apply k_S;rfl)|(apply k_SL;rfl)|(apply k_nil)|(apply w_seq)|(apply w_ops;((conv=>lhs;simp only [Nat.reduceAdd])<;>rfl))|(apply w_condF;rfl)|(apply e_thenN)|(apply e_thenX)|(apply e_blkN)|(apply e_blkE)|(apply w_exit))
        apply e_thenK
        apply hK (i + 1)
        · omega
        · omega
        · rw [← e2]
          refine wkM [] [] rfl ?_ ?_ rfl ?_
          · intro p hp;simp only [List.mem_cons,List.not_mem_nil,or_false] at hp;rcases hp with rfl | rfl<;>first | exact ⟨by omega,.inr ⟨rfl,_,rfl,.data rfl⟩⟩ | exact ⟨by omega,.inr ⟨rfl,_,rfl,.data encB_isD⟩⟩
          · intro q hq;simp only [List.mem_cons,List.not_mem_nil,or_false] at hq;rcases hq with rfl<;>rfl
          · repeat' (first|exact FWk.nil|(apply FWk.i;rfl;(first|rfl|omega|(simp;done)))|(apply FWk.sl;rfl;rfl;rfl;rfl;omega;rfl)|(apply FWk.ptr;rfl;rfl;rfl;omega;rfl))
    · have ei : i=subs.length:=by omega
      subst ei
      repeat' (first|(apply r_mvV;rfl)|(apply r_mvSL;rfl)|(apply r_faddL;rfl)|(apply r_ldL;rfl;rfl;rfl)|(apply r_lss;rfl;rfl;(first|(apply dT;omega)|(apply dF;omega)|rfl))|(apply r_lenD;rfl)|(apply r_nilK)|(apply k_V;rfl)|(apply k_PL;rfl)|(apply k_SL;rfl)|(apply k_nil)|(apply e_ret;rfl)|(apply w_seq)|(apply w_ops;((conv=>lhs;simp only [Nat.reduceAdd])<;>rfl))|(apply w_condF;rfl)|(apply e_thenN)|(apply e_thenX)|(apply e_blkN)|(apply e_blkE)|(apply w_exit)|(apply w_ret))
      have e2 : lenS (altL (subs.take subs.length)) m=lenS (L (.node k a b c d mn mx subs)) m:=by
        rw [List.take_length]
        refine lenS_congr (fun w=>?_) m
        subst h4
        rw [L_k4]
      rw [← e2]
      exact retSB rfl (lenS_len _ _)
  have h5 : k=5:=by omega
  obtain ⟨u,hu⟩:=hk5 h5
  have hl1 : 0 < subs.length:=by rw [hu];simp
  have hg:=ih' 0 hl1
  have hs:=NodeAt.sub hl1
  have hu0 : subs[0]=u:=by simp [hu]
  rw [hu0] at hg hs
  have hr5:=hR h5
  have eL : ∀ w,L (.node k a b c d mn mx subs) w↔∃ r : Nat,mn≤r∧(mx < 0 ∨ (r : Int)≤mx)∧powL (L u) r w:=by
    intro w
    subst h5
    rw [L_k5,hu]
    have : ∀ w,fstL [u] w↔L u w:=fun w=>by rw [fstL]
    simp only [powL_congr this]
  have hna : [nodeA u,.i m].all AV.nrm=true:=by rw [List.all_cons,nodeA_nrm];rfl
  clear hu0 hu hk5 ih' hkind
  obtain ⟨mnN,rfl⟩:=Int.eq_ofNat_of_zero_le hr5.1.1
  obtain ⟨last,hlast,hfin⟩ : ∃ last : Nat,last≤1100∧((last : Int)=if mx < 0 then (mnN : Int) + m else mx)∧mnN≤last∧∀ j,j≤m→((∃ r : Nat,mnN≤r∧r < last + 1∧∃ w,powL (L u) r w∧w.length=j)↔∃ w,L (.node k a b c d mnN mx subs) w∧w.length=j):=by
    by_cases hmx : mx < 0
    · refine ⟨mnN + m,by omega,by rw [if_pos hmx];omega,by omega,fun j hj=>?_⟩
      constructor
      · rintro ⟨r,g1,g2,w,g3,g4⟩;exact ⟨w,(eL w).2 ⟨r,by omega,.inl hmx,g3⟩,g4⟩
      · rintro ⟨w,hw,g4⟩
        obtain ⟨r,g1,_,g3⟩:=(eL w).1 hw
        by_cases hr : r≤mnN + m
        · exact ⟨r,by omega,by omega,w,g3,g4⟩
        · exact ⟨mnN + m,by omega,by omega,w,powL_cut w _ (by omega) r (by omega) g3,g4⟩
    · obtain ⟨x,rfl⟩:=Int.eq_ofNat_of_zero_le (show 0≤mx by omega)
      refine ⟨x,by omega,by rw [if_neg hmx],by omega,fun j hj=>?_⟩
      constructor
      · rintro ⟨r,g1,g2,w,g3,g4⟩;exact ⟨w,(eL w).2 ⟨r,by omega,by omega,g3⟩,g4⟩
      · rintro ⟨w,hw,g4⟩
        obtain ⟨r,g1,g2,g3⟩:=(eL w).1 hw
        exact ⟨r,by omega,by omega,w,g3,g4⟩
  obtain ⟨hle,hml,hfin⟩:=hfin
  have e : (List.replicate (m + 1) false).set 0 true=lenS (powL (L u) 0) m:=by
    refine lenS_eq (by simp) fun j hj=>?_
    rw [at_set j (by simp)]
    simp only [powL]
    constructor
    · rintro (⟨rfl,_⟩ | ⟨_,h⟩)
      · exact ⟨[],rfl,rfl⟩
      · exact absurd h (at_rep _ _)
    · rintro ⟨w,rfl,h⟩;exact .inl ⟨h.symm,by simp⟩
  refine b49 (by simp) (by simp) (w_init ?_)
  unfold x49
  repeat' (first|(apply r_mvV;rfl)|(apply r_mvS;rfl)|(apply r_mvSL;rfl)|(apply r_faddL;rfl)|(apply r_l;apply ld_node';assumption;rfl)|(apply r_mksB (m:=m + 1);rfl;rfl;((conv=>lhs;simp only [Nat.reduceAdd])<;>rfl);omega;omega)|(apply r_ixL (j:=0);rfl;rfl;omega)|(apply r_stB (j:=0);rfl;rfl;rfl;rfl;omega)|(apply r_p (v:=.d (.ptr (encL subs) 0));exact ix_sub0 rfl rfl hl1)|(apply r_callA (ags:=[nodeA u,.i m]);rfl;exact hna;exact hg)|(apply r_ldL;rfl;rfl;rfl)|(apply r_eql;rfl;rfl;(first|(apply dT;omega)|(apply dF;omega)|rfl))|(apply r_lss;rfl;rfl;(first|(apply dT;omega)|(apply dF;omega)|rfl))|(apply r_add;rfl;rfl;rfl;omega)|(apply r_box;((conv=>lhs;simp only [Nat.reduceAdd])<;>rfl);rfl;rfl;rfl)|(apply r_nilK)|(apply k_V;rfl)|(apply k_PL;rfl)|(apply k_S;rfl)|(apply k_SL;rfl)|(apply k_nil)|(apply w_seq)|(apply w_ops;((conv=>lhs;simp only [Nat.reduceAdd])<;>rfl))|(apply w_condT;rfl)|(apply w_condF;rfl)|((apply w_condS;rfl)<;>(intro h;try simp only [decide_eq_true_eq,decide_eq_false_iff_not,Bool.not_eq_true,Bool.not_eq_false] at h))|(apply e_thenN)|(apply w_block)|(apply w_skip))
  all_goals
    apply w_loopF (ι:=Nat × List Bool) (S:=fun z=>⟨((((((Fr.nil.put 1 (.i m)).put 2 (.ptrL 1 0)).put 5 (.slL 50 0 (m + 1) 1)).put 10 (.d (.sl (encB (lenS (L u) m)) (m + 1)))).put 11 (.d (.sl (encB (lenS (powL (L u) z.1) m)) (m + 1)))).put 12 (.i last)).put 13 (.i z.1),rowsOf [(1,[.i k,.d (.val (.int .u64 a)),.d (.val (.int .u64 b)),.d (.val (.int .u64 c)),.d (.val (.int .u64 d)),.i mnN,.i mx,.d (.sl (encL subs) subs.length)]),(50,(encB z.2).map AV.d)],Frz.buts 100 [50],100⟩) (m:=fun z=>last + 1 - z.1) (I:=fun z=>z.1≤last + 1∧z.2.length=m + 1∧∀ j,j≤m→(At z.2 j↔∃ r : Nat,mnN≤r∧r < z.1∧∃ w,powL (L u) r w∧w.length=j)) (i0:=(0,List.replicate (m + 1) false))
    · refine ⟨Nat.zero_le _,by simp,fun j hj=>⟨fun h=>absurd h (at_rep _ _),?_⟩⟩
      rintro ⟨r,_,h,_⟩
      dsimp only at h
      omega
    · refine fzB (k:=11) (b:=28) (m:=m + 1) (p:=(List.replicate (m + 1) false).set 0 true) rfl rfl (by simp) (by omega) ?_
      rw [e]
      dsimp only
      refine wkM [(50,5)] [] rfl ?_ ?_ rfl ?_
      · intro p hp;simp only [List.mem_cons,List.not_mem_nil,or_false] at hp;rcases hp with rfl | rfl<;>first | exact ⟨by omega,.inr ⟨rfl,_,rfl,.data rfl⟩⟩ | exact ⟨by omega,.inr ⟨rfl,_,rfl,.data encB_isD⟩⟩
      · intro q hq;simp only [List.mem_cons,List.not_mem_nil,or_false] at hq;rcases hq with rfl<;>rfl
      · repeat' (first|exact FWk.nil|(apply FWk.i;rfl;(first|rfl|omega|(simp;done)))|(apply FWk.sl;rfl;rfl;rfl;rfl;omega;rfl)|(apply FWk.ptr;rfl;rfl;rfl;omega;rfl)|(apply FWk.d;rfl;rfl))
    rintro ⟨kk,p⟩ K ⟨hk1,hpl,hp⟩ hK
    dsimp only at hk1 hpl hp hK ⊢
    rcases Nat.lt_or_ge last kk with hgt | hlek
    · have ek : kk=last + 1:=by omega
      subst ek
      have e2 : p=lenS (L (.node k a b c d mnN mx subs)) m:=lenS_eq hpl fun j hj=>by rw [hp j hj,hfin j hj]
      repeat' (first|(apply r_mvV;rfl)|(apply r_mvSL;rfl)|(apply r_leq;rfl;rfl;(first|(apply dT;omega)|(apply dF;omega)|rfl))|(apply r_nilK)|(apply k_V;rfl)|(apply k_PL;rfl)|(apply k_S;rfl)|(apply k_SL;rfl)|(apply k_nil)|(apply e_ret;rfl)|(apply w_seq)|(apply w_ops;((conv=>lhs;simp only [Nat.reduceAdd])<;>rfl))|(apply w_condF;rfl)|(apply e_thenN)|(apply e_thenX)|(apply e_blkN)|(apply e_blkE)|(apply w_exit)|(apply w_ret))
      rw [← e2]
      exact retSB rfl hpl
    have hj98:=join98_good (lenS (powL (L u) kk) m) (lenS (L u) m) (lenS_len _ _) (lenS_len _ _) (by omega)
    have ej : joinB (lenS (powL (L u) kk) m) (lenS (L u) m)=lenS (powL (L u) (kk + 1)) m:=by
      rw [joinB_lenS]
      exact lenS_congr (fun w=>(powL_snoc (L u) kk w).symm) m
    rw [ej] at hj98
    by_cases hmk : mnN≤kk
    · have hfin2 : ∀ p2,Ored p (lenS (powL (L u) kk) m) p2 (m + 1)→∀ j,j≤m→(At p2 j↔∃ r : Nat,mnN≤r∧r < kk + 1∧∃ w,powL (L u) r w∧w.length=j):=by
        intro p2 h j hj
        rw [h.2 j,at_lenS,hp j hj]
        constructor
        · rintro (⟨r,g1,g2,g3⟩ | ⟨_,_,g3⟩)
          · exact ⟨r,g1,by omega,g3⟩
          · exact ⟨kk,hmk,by omega,g3⟩
        · rintro ⟨r,g1,g2,g3⟩
          by_cases er : r=kk
          · subst er;exact .inr ⟨by omega,hj,g3⟩
          · exact .inl ⟨r,g1,by omega,g3⟩
      have hql:=lenS_len (powL (L u) kk) m
      generalize lenS (powL (L u) kk) m=q at hj98 hfin2 hql ⊢
      repeat' (first|(apply r_mvV;rfl)|(apply r_faddL;rfl)|(apply r_ldL;rfl;rfl;rfl)|(apply r_leq;rfl;rfl;(first|(apply dT;omega)|(apply dF;omega)|rfl))|(apply r_geq;rfl;rfl;(first|(apply dT;omega)|(apply dF;omega)|rfl))|(apply r_nilK)|(apply k_V;rfl)|(apply k_PL;rfl)|(apply k_S;rfl)|(apply k_SL;rfl)|(apply k_nil)|(apply w_seq)|(apply w_ops;((conv=>lhs;simp only [Nat.reduceAdd])<;>rfl))|(apply w_condT;rfl)|(apply e_thenN)|(apply w_block)|(apply w_skip))
      apply w_loopI (ι:=Nat × List Bool) (S:=fun z=>⟨(((((((Fr.nil.put 1 (.i m)).put 2 (.ptrL 1 0)).put 5 (.slL 50 0 (m + 1) 1)).put 10 (.d (.sl (encB (lenS (L u) m)) (m + 1)))).put 11 (.d (.sl (encB q) (m + 1)))).put 12 (.i last)).put 13 (.i kk)).put 14 (.i z.1),rowsOf [(1,[.i k,.d (.val (.int .u64 a)),.d (.val (.int .u64 b)),.d (.val (.int .u64 c)),.d (.val (.int .u64 d)),.i mnN,.i mx,.d (.sl (encL subs) subs.length)]),(50,(encB z.2).map AV.d)],Frz.buts 200 [50],200⟩) (m:=fun z=>m + 1 - z.1) (I:=fun z=>z.1≤m + 1∧Ored p q z.2 z.1) (i0:=(0,p))
      · exact ⟨Nat.zero_le _,.zero _ _⟩
      · dsimp only
        refine wkM [] [] rfl ?_ ?_ rfl ?_
        · intro p hp;simp only [List.mem_cons,List.not_mem_nil,or_false] at hp;rcases hp with rfl | rfl<;>first | exact ⟨by omega,.inr ⟨rfl,_,rfl,.data rfl⟩⟩ | exact ⟨by omega,.inr ⟨rfl,_,rfl,.data encB_isD⟩⟩
        · intro q hq;simp only [List.mem_cons,List.not_mem_nil,or_false] at hq;rcases hq with rfl<;>rfl
        · repeat' (first|exact FWk.nil|(apply FWk.i;rfl;(first|rfl|omega|(simp;done)))|(apply FWk.sl;rfl;rfl;rfl;rfl;omega;rfl)|(apply FWk.ptr;rfl;rfl;rfl;omega;rfl)|(apply FWk.d;rfl;rfl))
      rintro ⟨j,p2⟩ K2 ⟨hj,ho⟩ hK2
      dsimp only at hj ho hK2 ⊢
      have hp2 : p2.length=m + 1:=ho.1.trans hpl
      rcases Nat.lt_or_ge j (m + 1) with hlj | hgj
      · have hgp : p2[j]?=some (p2.getD j false):=by rw [List.getD_eq_getElem?_getD,List.getElem?_eq_getElem (by omega)];rfl
        have hgq : q[j]?=some (q.getD j false):=by rw [List.getD_eq_getElem?_getD,List.getElem?_eq_getElem (by omega)];rfl
        have hst:=ho.step (by omega)
        have fin : ∀ v fr C Z nx,v=(p2.getD j false || q.getD j false)→Wk ⟨fr,C,Z,nx⟩ ⟨(((((((Fr.nil.put 1 (.i m)).put 2 (.ptrL 1 0)).put 5 (.slL 50 0 (m + 1) 1)).put 10 (.d (.sl (encB (lenS (L u) m)) (m + 1)))).put 11 (.d (.sl (encB q) (m + 1)))).put 12 (.i last)).put 13 (.i kk)).put 14 (.i ((j + 1 : Nat) : Int)),rowsOf [(1,[.i k,.d (.val (.int .u64 a)),.d (.val (.int .u64 b)),.d (.val (.int .u64 c)),.d (.val (.int .u64 d)),.i mnN,.i mx,.d (.sl (encL subs) subs.length)]),(50,(encB (p2.set j v)).map AV.d)],Frz.buts 200 [50],200⟩→K2 ⟨fr,C,Z,nx⟩:=by
          intro v fr C Z nx hv hw
          subst hv
          exact hK2 (j + 1,_) fr C Z nx ⟨by dsimp only;omega,hst⟩ (by dsimp only;omega) hw
        generalize p2.getD j false=v1 at hgp fin
        generalize q.getD j false=v2 at hgq fin
        cases v1
        all_goals
          repeat' (first|(apply r_mvV;rfl)|(apply r_mvS;rfl)|(apply r_mvSL;rfl)|(apply r_ixL (j:=j);rfl;rfl;omega)|(apply r_ldBL (j:=j);rfl;rfl;exact hgp)|(apply r_ixB' (j:=j);rfl;rfl;exact hlj;exact hql)|(apply r_ldB (j:=j);rfl;exact hgq)|(apply r_stB (j:=j);rfl;rfl;rfl;rfl;omega)|(apply r_leq;rfl;rfl;(first|(apply dT;omega)|(apply dF;omega)|rfl))|(apply r_add;rfl;rfl;rfl;omega)|(apply r_pickT;rfl)|(apply r_pickF;rfl)|(apply r_gT;rfl)|(apply r_gF';rfl;rfl)|(apply r_nilK)|(apply k_V;rfl)|(apply k_PL;rfl)|(apply k_S;rfl)|(apply k_SL;rfl)|(apply k_nil)|(apply w_seq)|(apply w_ops;((conv=>lhs;simp only [Nat.reduceAdd])<;>rfl))|(apply w_condT;rfl)|(apply e_thenN)|(apply w_block)|(apply e_blkN)|(apply w_skip))
          apply e_thenK
          refine fin _ _ _ _ _ (by first | rfl | simp) ?_
          refine wkM [] [] rfl ?_ ?_ rfl ?_
          · intro p hp;simp only [List.mem_cons,List.not_mem_nil,or_false] at hp;rcases hp with rfl | rfl<;>first | exact ⟨by omega,.inr ⟨rfl,_,rfl,.data rfl⟩⟩ | exact ⟨by omega,.inr ⟨rfl,_,rfl,.data encB_isD⟩⟩
          · intro q hq;simp only [List.mem_cons,List.not_mem_nil,or_false] at hq;rcases hq with rfl<;>rfl
          · repeat' (first|exact FWk.nil|(apply FWk.i;rfl;(first|rfl|omega|(simp;done)))|(apply FWk.sl;rfl;rfl;rfl;rfl;omega;rfl)|(apply FWk.ptr;rfl;rfl;rfl;omega;rfl)|(apply FWk.d;rfl;rfl))
      · have ej2 : j=m + 1:=by omega
        subst ej2
        have e2:=hfin2 p2 ho
        repeat' (first|(apply r_mvV;rfl)|(apply r_mvS;rfl)|(apply r_callA;rfl;rfl;exact hj98)|(apply r_leq;rfl;rfl;(first|(apply dT;omega)|(apply dF;omega)|rfl))|(apply r_add;rfl;rfl;rfl;omega)|(apply r_nilK)|(apply k_V;rfl)|(apply k_PL;rfl)|(apply k_S;rfl)|(apply k_SL;rfl)|(apply k_nil)|(apply w_seq)|(apply w_ops;((conv=>lhs;simp only [Nat.reduceAdd])<;>rfl))|(apply w_condF;rfl)|(apply e_thenN)|(apply e_thenX)|(apply e_blkN)|(apply e_blkE)|(apply w_exit))
        apply e_thenK
        apply hK (kk + 1,p2)
        · exact ⟨by dsimp only;omega,hp2,e2⟩
        · dsimp only;omega
        · dsimp only
          refine Wk.f (wkM [] [] rfl ?_ ?_ rfl ?_)
          · intro p hp;simp only [List.mem_cons,List.not_mem_nil,or_false] at hp;rcases hp with rfl | rfl<;>first | exact ⟨by omega,.inr ⟨rfl,_,rfl,.data rfl⟩⟩ | exact ⟨by omega,.inr ⟨rfl,_,rfl,.data encB_isD⟩⟩
          · intro q hq;simp only [List.mem_cons,List.not_mem_nil,or_false] at hq;rcases hq with rfl<;>rfl
          · repeat' (first|exact FWk.nil|(apply FWk.i;rfl;(first|rfl|omega|(simp;done)))|(apply FWk.sl;rfl;rfl;rfl;rfl;omega;rfl)|(apply FWk.ptr;rfl;rfl;rfl;omega;rfl)|(apply FWk.d;rfl;rfl))
    · repeat' (first|(apply r_mvV;rfl)|(apply r_mvS;rfl)|(apply r_faddL;rfl)|(apply r_callA;rfl;rfl;exact hj98)|(apply r_ldL;rfl;rfl;rfl)|(apply r_leq;rfl;rfl;(first|(apply dT;omega)|(apply dF;omega)|rfl))|(apply r_geq;rfl;rfl;(first|(apply dT;omega)|(apply dF;omega)|rfl))|(apply r_add;rfl;rfl;rfl;omega)|(apply r_nilK)|(apply k_V;rfl)|(apply k_PL;rfl)|(apply k_S;rfl)|(apply k_SL;rfl)|(apply k_nil)|(apply w_seq)|(apply w_ops;((conv=>lhs;simp only [Nat.reduceAdd])<;>rfl))|(apply w_condT;rfl)|(apply w_condF;rfl)|(apply e_thenN)|(apply w_block)|(apply e_blkN)|(apply w_skip))
      apply e_thenK
      apply hK (kk + 1,p)
      · refine ⟨by dsimp only;omega,hpl,fun j hj=>?_⟩
        rw [hp j hj]
        dsimp only
        constructor
        · rintro ⟨r,g1,g2,g3⟩;omega
        · rintro ⟨r,g1,g2,g3⟩;omega
      · dsimp only;omega
      · dsimp only
        refine Wk.f (wkM [] [] rfl ?_ ?_ rfl ?_)
        · intro p hp;simp only [List.mem_cons,List.not_mem_nil,or_false] at hp;rcases hp with rfl | rfl<;>first | exact ⟨by omega,.inr ⟨rfl,_,rfl,.data rfl⟩⟩ | exact ⟨by omega,.inr ⟨rfl,_,rfl,.data encB_isD⟩⟩
        · intro q hq;simp only [List.mem_cons,List.not_mem_nil,or_false] at hq;rcases hq with rfl<;>rfl
        · repeat' (first|exact FWk.nil|(apply FWk.i;rfl;(first|rfl|omega|(simp;done)))|(apply FWk.sl;rfl;rfl;rfl;rfl;omega;rfl)|(apply FWk.ptr;rfl;rfl;rfl;omega;rfl)|(apply FWk.d;rfl;rfl))
noncomputable def nullS (t : T) : Bool:=@decide (L t []) (Classical.propDecidable _)
theorem null72_good (t : T) (hc : t.cnt≤1000000) (hok : okT t) : Good Try.prog 72 [nodeA t] none (.b (nullS t)) none none:=by
  have h:=len49_good 1000000 t hc (Nat.le_refl _) hok 0 (by omega)
  have h0 : (lenS (L t) 0)[0]?=some (nullS t):=by
    have h1:=at_lenS (L t) 0 0
    have hl:=lenS_len (L t) 0
    have h2 : (lenS (L t) 0)[0]?=some ((lenS (L t) 0).getD 0 false):=by rw [List.getD_eq_getElem?_getD,List.getElem?_eq_getElem (by omega)];rfl
    rw [h2]
    congr 1
    unfold At at h1
    rw [Bool.eq_iff_iff,h1]
    simp only [nullS,decide_eq_true_eq]
    constructor
    · rintro ⟨_,w,hw,hl⟩
      have : w=[]:=List.length_eq_zero_iff.1 hl
      subst this;exact hw
    · intro hw;exact ⟨Nat.le_refl _,[],hw,rfl⟩
  have hl:=lenS_len (L t) 0
  generalize nullS t=v at h0
  generalize lenS (L t) 0=q at h h0 hl
  obtain ⟨k,a,b,c,d,mn,mx,subs⟩:=t
  have e0 : nodeA (.node k a b c d mn mx subs)=.agg [.i k,.d (.val (.int .u64 a)),.d (.val (.int .u64 b)),.d (.val (.int .u64 c)),.d (.val (.int .u64 d)),.i mn,.i mx,.d (.sl (encL subs) subs.length)]:=rfl
  rw [e0] at h ⊢
  refine b72 (by simp) (by simp) (w_init ?_)
  unfold x72
  repeat' (first|(apply r_mvV;rfl)|(apply r_callA;rfl;rfl;exact h)|(apply r_ixB' (j:=0);rfl;rfl;omega;exact hl)|(apply r_ldB (j:=0);rfl;exact h0)|(apply r_ldL;rfl;rfl;rfl)|(apply r_box;((conv=>lhs;simp only [Nat.reduceAdd])<;>rfl);rfl;rfl;rfl)|(apply r_nilK)|(apply k_V;rfl)|(apply k_PL;rfl)|(apply k_nil)|(apply e_ret (vs:=[.d (.val _)]);rfl)|(apply w_seq)|(apply w_ops;((conv=>lhs;simp only [Nat.reduceAdd])<;>rfl))|(apply e_thenN)|(apply w_ret))
  exact retB rfl
end Go.Sv
namespace Go.Sv
open Go Go.Proofs
section
variable {P : Program} {Q : Cont} {fr : Fr} {C : Heap} {Z : Frz} {nx : Nat} {base n d : Nat} {l : List (Nat × XO)} {kp : Option (List Nat)} {x i y s : X}
end
theorem nullS_nl {t : T} (h : okT t) : nullS t=nlT t:=by
  have hd : nullS t=true↔L t []:=by unfold nullS;exact @decide_eq_true_iff _ (Classical.propDecidable _)
  rw [Bool.eq_iff_iff,hd]
  exact (nlT_L t h).symm
set_option maxRecDepth 100000
set_option maxHeartbeats 4000000
attribute [local irreducible] W E R KP thenK blockK retK Good xwp aRun
end Go.Sv
namespace Go.Sv
open Go Go.Proofs
set_option maxRecDepth 100000
set_option maxHeartbeats 4000000
attribute [local irreducible] W E R KP thenK blockK retK Good xwp aRun
def dbN (x : Nat) (t : T) : T:=if fitsT t 12=true then byT x (simT t) else zT
theorem By77_good {x : Nat} (hx : x < 256) (t : T) (hc : t.cnt≤4000) (hok : fitsT t 12=true→okT t) : Good Try.prog 77 [nodeA t,.d (.val (.int .u8 (x : Nat)))] none (.tup [nodeA (dbN x t),.i (sE t)]) none none:=by
  have h46:=Simple46_good t (by omega) hok
  have ez : nodeA zT=.agg [.i 0,.d (.val (.int .u64 0)),.d (.val (.int .u64 0)),.d (.val (.int .u64 0)),.d (.val (.int .u64 0)),.i 0,.i 0,.d (.sl [] 0)]:=rfl
  unfold dbN
  rcases Bool.eq_false_or_eq_true (fitsT t 12) with hR | hR
  case inr =>
    have e1 : sE t=1:=by simp [sE,hR]
    have e2 : sN t=zT:=by simp [sN,hR]
    rw [e1,e2,ez] at h46
    rw [e1,hR,if_neg (by simp),ez]
    clear e1 e2 hok hc hR
    obtain ⟨k,a,b,c,d,mn,mx,subs⟩:=t
    have e0 : nodeA (T.node k a b c d mn mx subs)=.agg [.i k,.d (.val (.int .u64 a)),.d (.val (.int .u64 b)),.d (.val (.int .u64 c)),.d (.val (.int .u64 d)),.i mn,.i mx,.d (.sl (encL subs) subs.length)]:=rfl
    rw [e0] at h46 ⊢
    refine b77 (by simp) (by simp) (w_init ?_)
    unfold x77
    repeat' (first|(apply r_mvV;rfl)|(apply r_mvT;rfl)|(apply r_callA (f:=46);rfl;rfl;exact h46)|(apply r_ldL (v:=.agg [.i k,.d (.val (.int .u64 a)),.d (.val (.int .u64 b)),.d (.val (.int .u64 c)),.d (.val (.int .u64 d)),.i mn,.i mx,.d (.sl (encL subs) subs.length)]);rfl;rfl;rfl)|(apply r_p (v:=.agg [.i 0,.d (.val (.int .u64 0)),.d (.val (.int .u64 0)),.d (.val (.int .u64 0)),.d (.val (.int .u64 0)),.i 0,.i 0,.d (.val (.slice none 0 0))]);rfl)|(apply r_neq;rfl;rfl;(first|(apply dT;omega)|(apply dF;omega)|rfl))|(apply r_ext;rfl;rfl)|(apply r_alloc;((conv=>lhs;simp only [Nat.reduceAdd])<;>rfl);rfl)|(apply r_box;((conv=>lhs;simp only [Nat.reduceAdd])<;>rfl);rfl;rfl;rfl)|(apply r_stL;rfl;rfl;rfl;rfl;(first|rfl|(simp only [z_nil,z_add]<;>rfl));rfl;rfl)|(apply r_nilK)|(apply k_V;rfl)|(apply k_PL;rfl)|(apply k_nil)|(apply e_ret;rfl)|(apply w_seq)|(apply w_ops;((conv=>lhs;simp only [Nat.reduceAdd])<;>rfl))|(apply w_condT;rfl)|(apply e_thenN)|(apply e_thenR)|(apply w_ret))
    exact .data _ rfl
  have hd:=DOK_sim (hok hR) hc
  have g1:=(by_row hx 4000 (Nat.le_refl _)).1 (simT t) hd.1 hd.2.1 hd.2.2
  have e1 : sE t=0:=by simp [sE,hR]
  have e2 : sN t=simT t:=by simp [sN,hR]
  rw [e1,e2] at h46
  rw [e1,hR,if_pos rfl]
  clear e1 e2 hok hc hR hd
  generalize byT x (simT t)=v at g1 ⊢
  generalize simT t=u at g1 h46
  obtain ⟨k,a,b,c,d,mn,mx,subs⟩:=t
  obtain ⟨k2,a2,b2,c2,d2,mn2,mx2,subs2⟩:=u
  obtain ⟨k3,a3,b3,c3,d3,mn3,mx3,subs3⟩:=v
  have e0 : nodeA (T.node k a b c d mn mx subs)=.agg [.i k,.d (.val (.int .u64 a)),.d (.val (.int .u64 b)),.d (.val (.int .u64 c)),.d (.val (.int .u64 d)),.i mn,.i mx,.d (.sl (encL subs) subs.length)]:=rfl
  have e1 : nodeA (T.node k2 a2 b2 c2 d2 mn2 mx2 subs2)=.agg [.i k2,.d (.val (.int .u64 a2)),.d (.val (.int .u64 b2)),.d (.val (.int .u64 c2)),.d (.val (.int .u64 d2)),.i mn2,.i mx2,.d (.sl (encL subs2) subs2.length)]:=rfl
  have e2 : nodeA (T.node k3 a3 b3 c3 d3 mn3 mx3 subs3)=.agg [.i k3,.d (.val (.int .u64 a3)),.d (.val (.int .u64 b3)),.d (.val (.int .u64 c3)),.d (.val (.int .u64 d3)),.i mn3,.i mx3,.d (.sl (encL subs3) subs3.length)]:=rfl
  rw [e0,e1] at h46
  rw [e1,e2] at g1
  rw [e0,e2]
  refine b77 (by simp) (by simp) (w_init ?_)
  unfold x77
  repeat' (first|(apply r_mvV;rfl)|(apply r_mvT;rfl)|(apply r_callA (f:=46);rfl;rfl;exact h46)|(apply r_callA (f:=127);rfl;rfl;exact g1)|(apply r_ldL (v:=.agg [.i k,.d (.val (.int .u64 a)),.d (.val (.int .u64 b)),.d (.val (.int .u64 c)),.d (.val (.int .u64 d)),.i mn,.i mx,.d (.sl (encL subs) subs.length)]);rfl;rfl;rfl)|(apply r_ldL (v:=.agg [.i k2,.d (.val (.int .u64 a2)),.d (.val (.int .u64 b2)),.d (.val (.int .u64 c2)),.d (.val (.int .u64 d2)),.i mn2,.i mx2,.d (.sl (encL subs2) subs2.length)]);rfl;rfl;rfl)|(apply r_neq;rfl;rfl;(first|(apply dT;omega)|(apply dF;omega)|rfl))|(apply r_ext;rfl;rfl)|(apply r_alloc;((conv=>lhs;simp only [Nat.reduceAdd])<;>rfl);rfl)|(apply r_box;((conv=>lhs;simp only [Nat.reduceAdd])<;>rfl);rfl;rfl;rfl)|(apply r_stL;rfl;rfl;rfl;rfl;(first|rfl|(simp only [z_nil,z_add]<;>rfl));rfl;rfl)|(apply r_nilK)|(apply k_V;rfl)|(apply k_PL;rfl)|(apply k_nil)|(apply e_ret;rfl)|(apply w_seq)|(apply w_ops;((conv=>lhs;simp only [Nat.reduceAdd])<;>rfl))|(apply w_condF;rfl)|(apply e_thenN)|(apply w_ret)|(apply w_skip))
  exact .data _ rfl
end Go.Sv
namespace Go.Sv
open Go Go.Proofs
set_option maxRecDepth 100000
set_option maxHeartbeats 4000000
attribute [local irreducible] W E R KP thenK blockK retK Good xwp aRun
end Go.Sv
namespace Go.Sv
open Go
set_option linter.unusedVariables false
section
variable {P : Program} {Q : Cont} {fr : Fr} {C : Heap} {Z : Frz} {nx : Nat} {base n d : Nat} {l : List (Nat × XO)} {kp : Option (List Nat)} {x i y s : X}
end
end Go.Sv
namespace Go.Sv
open Go Go.Proofs
set_option maxRecDepth 100000
set_option maxHeartbeats 4000000
attribute [local irreducible] W E R KP thenK blockK retK Good xwp aRun
end Go.Sv
namespace Go.Sv
open Go Go.Proofs
set_option maxRecDepth 100000
set_option maxHeartbeats 4000000
attribute [local irreducible] W E R KP thenK blockK retK Good xwp aRun
end Go.Sv
namespace Go.Sv
open Go Go.Proofs
def x48 : XC:=(.seq (.ops 2 [ (0,⟨some 1,none,.box (.t 0)⟩),(1,⟨some 2,none,.mv (.k (.d (.val (.int .i64 0))))⟩)] (some [1])) (.seq (.ops 1 [ (0,⟨some 3,none,.mv (.k (.d (.val (.int .i64 1))))⟩)] (some [1,3])) (.seq (.seq (.ops 1 [ (0,⟨some 4,none,.mv (.k (.d (.val (.int .i64 0))))⟩)] (some [1,3,4])) (.block 0 (.loop (.seq (.seq (.ops 5 [ (0,⟨some 5,none,.mv (.t 4)⟩),(1,⟨some 6,none,.fadd 7 (.t 1)⟩),(2,⟨some 7,none,.load none (.t 6)⟩),(3,⟨some 8,none,.lenS (.t 7)⟩),(4,⟨some 9,none,.arith .lss (.t 5) (.t 8)⟩)] (some [1,3,4,9])) (.cond (.t 9) .skip (.exit 0))) (.seq (.block 1 (.ops 9 [ (0,⟨some 12,none,.mv (.t 3)⟩),(1,⟨some 13,none,.fadd 7 (.t 1)⟩),(2,⟨some 14,none,.load none (.t 13)⟩),(3,⟨some 15,none,.mv (.t 4)⟩),(4,⟨some 16,none,.idxS 8 (.t 14) (.t 15)⟩),(5,⟨some 17,none,.load (some 8) (.t 16)⟩),(6,⟨some 18,none,.call 48 [(.t 17)] none false⟩),(7,⟨some 19,none,.arith .add (.t 12) (.t 18)⟩),(8,⟨some 3,none,.mv (.t 19)⟩)] (some [1,3,4]))) (.ops 3 [ (0,⟨some 10,none,.mv (.t 4)⟩),(1,⟨some 11,none,.arith .add (.t 10) (.k (.d (.val (.int .i64 1))))⟩),(2,⟨some 4,none,.mv (.t 11)⟩)] (some [1,3,4]))))))) (.seq (.ops 2 [ (0,⟨some 20,none,.mv (.t 3)⟩),(1,⟨some 2,none,.mv (.t 20)⟩)] (some [2])) .ret))))
def md48 : FuncId→Option Nat × Bool
  | _=>(none,false)
def od48 : Nat→List (List Nat) × List Nat × Option (List Nat)
  | 0=>([],[],some [1])
  | 1=>([],[],some [1,3])
  | 2=>([],[],some [1,3,4])
  | 3=>([],[],some [1,3,4,9])
  | 4=>([],[],some [1,3,4])
  | 5=>([],[],some [1,3,4])
  | 6=>([],[],some [2])
  | _=>([],[],none)
theorem b48 {ags : List AV} {row : Option (List DV)} {r : AV} {row' nw : Option (List DV)} (hal : ags.length≤21) (hrow : row'.isSome=true→row.isSome=true) (h : xwp Try.prog x48 (retK [.tmp 2] row.isSome r row' nw) (St.init ags row)) : Good Try.prog 48 ags row r row' nw :=
  good_of_body' (md:=md48) (od:=od48) Try.f48 (by kernel_rfl) (by kernel_rfl) (by kernel_rfl) (by kernel_rfl) (by kernel_rfl) hal hrow h

set_option maxRecDepth 100000
set_option maxHeartbeats 4000000
attribute [local irreducible] W E R KP thenK blockK retK Good xwp aRun
theorem size48_good : ∀ (n : Nat) (t : T),t.cnt≤n→n≤1000000→Good Try.prog 48 [nodeA t] none (.i (t.cnt : Nat)) none none:=by
  intro n
  induction n with
  | zero=>intro t ht;have:=cnt_pos t;omega
  | succ n ih =>
  intro t ht hc
  obtain ⟨k,a,b,c,d,mn,mx,subs⟩:=t
  have ih' : ∀ i (h : i < subs.length),Good Try.prog 48 [nodeA subs[i]] none (.i (subs[i].cnt : Nat)) none none:=by
    intro i h
    refine ih _ ?_ (by omega)
    have:=cntL_get subs i h
    simp only [T.cnt] at ht
    omega
  have hlen : subs.length≤1000000:=by
    have:=cntL_len subs
    simp only [T.cnt] at ht
    omega
  have e0 : nodeA (.node k a b c d mn mx subs)=.agg [.i k,.d (.val (.int .u64 a)),.d (.val (.int .u64 b)),.d (.val (.int .u64 c)),.d (.val (.int .u64 d)),.i mn,.i mx,.d (.sl (encL subs) subs.length)]:=rfl
  rw [e0]
  rw [T.cnt] at ht ⊢
  refine b48 (by simp) (by simp) (w_init ?_)
  unfold x48
  repeat' (first|(apply r_mvV;rfl)|(apply r_box;((conv=>lhs;simp only [Nat.reduceAdd])<;>rfl);rfl;rfl;rfl)|(apply r_nilK)|(apply k_V;rfl)|(apply k_PL;rfl)|(apply k_nil)|(apply w_seq)|(apply w_ops;((conv=>lhs;simp only [Nat.reduceAdd])<;>rfl))|(apply e_thenN)|(apply w_block))
  apply w_loopI (S:=fun i : Nat=>⟨((Fr.nil.put 1 (.ptrL 1 0)).put 3 (.i ((1 + cntL (subs.take i) : Nat) : Int))).put 4 (.i i),Heap.nil.put 1 [.i k,.d (.val (.int .u64 a)),.d (.val (.int .u64 b)),.d (.val (.int .u64 c)),.d (.val (.int .u64 d)),.i mn,.i mx,.d (.sl (encL subs) subs.length)],Frz.lo 100,100⟩) (m:=fun i=>subs.length - i) (I:=fun i=>i≤subs.length) (i0:=0)
  · exact Nat.zero_le _
  · refine wkR (by omega) rfl rfl ?_
    simp only [List.take_zero,cntL]
    repeat' (first|exact FWk.nil|(apply FWk.i;rfl;(first|rfl|omega|(simp;done)))|(apply FWk.ptr;rfl;rfl;rfl;omega;rfl))
  intro i K hi hK
  dsimp only
  rcases Nat.lt_or_ge i subs.length with hlt | hge
  · have hs:=NodeAt.sub hlt
    have hg:=ih' i hlt
    have hd:=cntL_take subs i hlt
    have h2:=cntL_take_le subs (i + 1)
    have hna : [nodeA subs[i]].all AV.nrm=true:=by rw [List.all_cons,nodeA_nrm];rfl
    repeat' (first|(apply r_mvV;rfl)|(apply r_faddL;rfl)|(apply r_l;apply ld_node';assumption;rfl)|(apply r_p;apply ix_sub;rfl;rfl;omega)|(apply r_callA (ags:=[nodeA subs[i]]);rfl;exact hna;exact hg)|(apply r_ldL;rfl;rfl;rfl)|(apply r_lss;rfl;rfl;(first|(apply dT;omega)|(apply dF;omega)|rfl))|(apply r_add;rfl;rfl;rfl;omega)|(apply r_lenD;rfl)|(apply r_nilK)|(apply k_V;rfl)|(apply k_PL;rfl)|(apply k_nil)|(apply w_seq)|(apply w_ops;((conv=>lhs;simp only [Nat.reduceAdd])<;>rfl))|(apply w_condT;rfl)|(apply e_thenN)|(apply w_block)|(apply e_blkN)|(apply w_skip))
    apply e_thenK
    apply hK (i + 1)
    · omega
    · omega
    · rw [hd]
      refine wkR (by omega) rfl rfl ?_
      repeat' (first|exact FWk.nil|(apply FWk.i;rfl;(first|rfl|omega|(simp;done)))|(apply FWk.ptr;rfl;rfl;rfl;omega;rfl))
  · have ei : i=subs.length:=by omega
    subst ei
    repeat' (first|(apply r_mvV;rfl)|(apply r_faddL;rfl)|(apply r_ldL;rfl;rfl;rfl)|(apply r_lss;rfl;rfl;(first|(apply dT;omega)|(apply dF;omega)|rfl))|(apply r_lenD;rfl)|(apply r_nilK)|(apply k_V;rfl)|(apply k_PL;rfl)|(apply k_nil)|(apply e_ret (vs:=[.d (.val _)]);rfl)|(apply w_seq)|(apply w_ops;((conv=>lhs;simp only [Nat.reduceAdd])<;>rfl))|(apply w_condF;rfl)|(apply e_thenN)|(apply e_thenX)|(apply e_blkE)|(apply w_exit)|(apply w_ret))
    exact retI (by rw [List.take_length])
end Go.Sv
namespace Go.Sv
open Go Go.Proofs
def x76 : XC:=(.seq (.ops 2 [ (0,⟨some 2,none,.box (.t 0)⟩),(1,⟨some 4,none,.mv (.k (.d (.val (.bool false))))⟩)] (some [1,2])) (.seq (.ops 18 [ (0,⟨some 5,none,.load (some 8) (.t 2)⟩),(1,⟨some 6,none,.call 45 [(.t 5)] none false⟩),(2,⟨some 7,none,.mv (.t 6)⟩),(3,⟨some 8,(some (7,true)),.mv (.t 1)⟩),(4,⟨some 9,(some (7,true)),.lenT (.t 8)⟩),(5,⟨some 10,(some (7,true)),.arith .leq (.t 9) (.k (.d (.val (.int .i64 16))))⟩),(6,⟨some 11,none,.pick (.t 7) (.t 10) (.k (.d (.val (.bool false))))⟩),(7,⟨some 12,none,.mv (.t 11)⟩),(8,⟨some 13,(some (12,true)),.load (some 8) (.t 2)⟩),(9,⟨some 14,(some (12,true)),.call 32 [(.t 13)] none false⟩),(10,⟨some 15,(some (12,true)),.un .not (.t 14)⟩),(11,⟨some 16,(some (12,true)),.mv (.t 15)⟩),(12,⟨some 17,(some (16,false)),.load (some 8) (.t 2)⟩),(13,⟨some 18,(some (16,false)),.call 48 [(.t 17)] none false⟩),(14,⟨some 19,(some (16,false)),.arith .leq (.t 18) (.k (.d (.val (.int .i64 60))))⟩),(15,⟨some 20,(some (12,true)),.pick (.t 16) (.k (.d (.val (.bool true)))) (.t 19)⟩),(16,⟨some 21,none,.pick (.t 12) (.t 20) (.k (.d (.val (.bool false))))⟩),(17,⟨some 4,none,.mv (.t 21)⟩)] (some [4])) .ret))
def md76 : FuncId→Option Nat × Bool
  | _=>(none,false)
def od76 : Nat→List (List Nat) × List Nat × Option (List Nat)
  | 0=>([],[],some [1,2])
  | 1=>([],[],some [4])
  | _=>([],[],none)
theorem b76 {ags : List AV} {row : Option (List DV)} {r : AV} {row' nw : Option (List DV)} (hal : ags.length≤22) (hrow : row'.isSome=true→row.isSome=true) (h : xwp Try.prog x76 (retK [.tmp 4] row.isSome r row' nw) (St.init ags row)) : Good Try.prog 76 ags row r row' nw :=
  good_of_body' (md:=md76) (od:=od76) Try.f76 (by kernel_rfl) (by kernel_rfl) (by kernel_rfl) (by kernel_rfl) (by kernel_rfl) hal hrow h

set_option maxRecDepth 100000
set_option maxHeartbeats 4000000
attribute [local irreducible] W E R KP thenK blockK retK Good xwp aRun
def few12 (s : ByteArray) (t : T) : Bool:=decide (sizeT t 601≤200) && (decide (s.size≤16) && (!rightT t || decide (t.cnt≤60)))
theorem few76_good (s : ByteArray) (hs : s.size≤9223372036854775807) (t : T) : Good Try.prog 76 [nodeA t,.d (.val (.string s))] none (.b (few12 s t)) none none:=by
  have h45:=few_good t
  by_cases hf : sizeT t 601≤200
  case neg =>
    have ev : few12 s t=false:=by simp [few12,hf]
    rw [ev]
    rw [show decide (sizeT t 601≤200)=false by simp [hf]] at h45
    clear ev hf
    obtain ⟨k,a,b,c,d,mn,mx,subs⟩:=t
    have e0 : nodeA (T.node k a b c d mn mx subs)=.agg [.i k,.d (.val (.int .u64 a)),.d (.val (.int .u64 b)),.d (.val (.int .u64 c)),.d (.val (.int .u64 d)),.i mn,.i mx,.d (.sl (encL subs) subs.length)]:=rfl
    rw [e0] at h45 ⊢
    refine b76 (by simp) (by simp) (w_init ?_)
    unfold x76
    repeat' (first|(apply r_mvV;rfl)|(apply r_callA;rfl;rfl;exact h45)|(apply r_ldL;rfl;rfl;rfl)|(apply r_pickF;rfl)|(apply r_gF';rfl;rfl)|(apply r_gN';rfl)|(apply r_box;((conv=>lhs;simp only [Nat.reduceAdd])<;>rfl);rfl;rfl;rfl)|(apply r_nilK)|(apply k_V;rfl)|(apply k_PL;rfl)|(apply k_nil)|(apply e_ret (vs:=[.d (.val _)]);rfl)|(apply w_seq)|(apply w_ops;((conv=>lhs;simp only [Nat.reduceAdd])<;>rfl))|(apply e_thenN)|(apply w_ret))
    exact retB rfl
  have hc:=few_cnt hf
  have h32:=right8_good t (by omega)
  have h48:=size48_good 1000000 t (by omega) (by omega)
  rw [show decide (sizeT t 601≤200)=true by simp [hf]] at h45
  by_cases h40 : s.size≤16
  case neg =>
    have ev : few12 s t=false:=by simp [few12,h40]
    rw [ev]
    clear ev hf hc h32 h48
    obtain ⟨k,a,b,c,d,mn,mx,subs⟩:=t
    have e0 : nodeA (T.node k a b c d mn mx subs)=.agg [.i k,.d (.val (.int .u64 a)),.d (.val (.int .u64 b)),.d (.val (.int .u64 c)),.d (.val (.int .u64 d)),.i mn,.i mx,.d (.sl (encL subs) subs.length)]:=rfl
    rw [e0] at h45 ⊢
    refine b76 (by simp) (by simp) (w_init ?_)
    unfold x76
    repeat' (first|(apply r_mvV;rfl)|(apply r_callA;rfl;rfl;exact h45)|(apply r_ldL;rfl;rfl;rfl)|(apply r_leq;rfl;rfl;(first|(apply dT;omega)|(apply dF;omega)|rfl))|(apply r_pickT;rfl)|(apply r_pickF;rfl)|(apply r_lenT;rfl)|(apply r_gT;rfl)|(apply r_gF';rfl;rfl)|(apply r_gN';rfl)|(apply r_box;((conv=>lhs;simp only [Nat.reduceAdd])<;>rfl);rfl;rfl;rfl)|(apply r_nilK)|(apply k_V;rfl)|(apply k_PL;rfl)|(apply k_nil)|(apply e_ret (vs:=[.d (.val _)]);rfl)|(apply w_seq)|(apply w_ops;((conv=>lhs;simp only [Nat.reduceAdd])<;>rfl))|(apply e_thenN)|(apply w_ret))
    exact retB rfl
  by_cases hr : rightT t=true
  case neg =>
    have hr : rightT t=false:=by simpa using hr
    have ev : few12 s t=true:=by simp [few12,hf,h40,hr]
    rw [ev]
    rw [hr] at h32
    clear ev hf hc h48 hr
    obtain ⟨k,a,b,c,d,mn,mx,subs⟩:=t
    have e0 : nodeA (T.node k a b c d mn mx subs)=.agg [.i k,.d (.val (.int .u64 a)),.d (.val (.int .u64 b)),.d (.val (.int .u64 c)),.d (.val (.int .u64 d)),.i mn,.i mx,.d (.sl (encL subs) subs.length)]:=rfl
    rw [e0] at h45 h32 ⊢
    refine b76 (by simp) (by simp) (w_init ?_)
    unfold x76
    repeat' (first|(apply r_mvV;rfl)|(apply r_callA (f:=45);rfl;rfl;exact h45)|(apply r_callA (f:=32);rfl;rfl;exact h32)|(apply r_ldL;rfl;rfl;rfl)|(apply r_leq;rfl;rfl;(first|(apply dT;omega)|(apply dF;omega)|rfl))|(apply r_not;rfl;rfl)|(apply r_pickT;rfl)|(apply r_lenT;rfl)|(apply r_gT;rfl)|(apply r_gF';rfl;rfl)|(apply r_box;((conv=>lhs;simp only [Nat.reduceAdd])<;>rfl);rfl;rfl;rfl)|(apply r_nilK)|(apply k_V;rfl)|(apply k_PL;rfl)|(apply k_nil)|(apply e_ret (vs:=[.d (.val _)]);rfl)|(apply w_seq)|(apply w_ops;((conv=>lhs;simp only [Nat.reduceAdd])<;>rfl))|(apply e_thenN)|(apply w_ret))
    exact retB rfl
  have ev : few12 s t=decide (t.cnt≤60):=by simp [few12,hf,h40,hr]
  rw [ev]
  rw [hr] at h32
  clear ev hf hr
  generalize t.cnt=ct at h48 hc ⊢
  obtain ⟨k,a,b,c,d,mn,mx,subs⟩:=t
  have e0 : nodeA (T.node k a b c d mn mx subs)=.agg [.i k,.d (.val (.int .u64 a)),.d (.val (.int .u64 b)),.d (.val (.int .u64 c)),.d (.val (.int .u64 d)),.i mn,.i mx,.d (.sl (encL subs) subs.length)]:=rfl
  rw [e0] at h45 h32 h48 ⊢
  by_cases hv : ct≤60
  · refine b76 (by simp) (by simp) (w_init ?_)
    unfold x76
    repeat' (first|(apply r_mvV;rfl)|(apply r_callA (f:=45);rfl;rfl;exact h45)|(apply r_callA (f:=32);rfl;rfl;exact h32)|(apply r_callA (f:=48);rfl;rfl;exact h48)|(apply r_ldL;rfl;rfl;rfl)|(apply r_leq;rfl;rfl;(first|(apply dT;omega)|(apply dF;omega)|rfl))|(apply r_not;rfl;rfl)|(apply r_pickT;rfl)|(apply r_pickF;rfl)|(apply r_lenT;rfl)|(apply r_gT;rfl)|(apply r_box;((conv=>lhs;simp only [Nat.reduceAdd])<;>rfl);rfl;rfl;rfl)|(apply r_nilK)|(apply k_V;rfl)|(apply k_PL;rfl)|(apply k_nil)|(apply e_ret (vs:=[.d (.val _)]);rfl)|(apply w_seq)|(apply w_ops;((conv=>lhs;simp only [Nat.reduceAdd])<;>rfl))|(apply e_thenN)|(apply w_ret))
    exact retB (by simp [hv])
  · refine b76 (by simp) (by simp) (w_init ?_)
    unfold x76
    repeat' (first|(apply r_mvV;rfl)|(apply r_callA (f:=45);rfl;rfl;exact h45)|(apply r_callA (f:=32);rfl;rfl;exact h32)|(apply r_callA (f:=48);rfl;rfl;exact h48)|(apply r_ldL;rfl;rfl;rfl)|(apply r_leq;rfl;rfl;(first|(apply dT;omega)|(apply dF;omega)|rfl))|(apply r_not;rfl;rfl)|(apply r_pickT;rfl)|(apply r_pickF;rfl)|(apply r_lenT;rfl)|(apply r_gT;rfl)|(apply r_box;((conv=>lhs;simp only [Nat.reduceAdd])<;>rfl);rfl;rfl;rfl)|(apply r_nilK)|(apply k_V;rfl)|(apply k_PL;rfl)|(apply k_nil)|(apply e_ret (vs:=[.d (.val _)]);rfl)|(apply w_seq)|(apply w_ops;((conv=>lhs;simp only [Nat.reduceAdd])<;>rfl))|(apply e_thenN)|(apply w_ret))
    exact retB (by simp [hv])
end Go.Sv
namespace Go.Sv
open Go Go.Proofs
theorem few12_of {s : ByteArray} {t : T} (h : few12 s t=true) : t.cnt≤200∧s.size≤16:=by
  simp only [few12,Bool.and_eq_true,decide_eq_true_eq] at h
  exact ⟨few_cnt h.1,h.2.1⟩
set_option maxRecDepth 100000
set_option maxHeartbeats 4000000
attribute [local irreducible] W E R KP thenK blockK retK Good xwp aRun
end Go.Sv
namespace Go.Sv
open Go Go.Proofs
def x50 : XC:=(.seq (.ops 2 [ (0,⟨some 1,none,.box (.t 0)⟩),(1,⟨some 2,none,.alloc [(.int .u64 0),(.int .u64 0),(.int .u64 0),(.int .u64 0)]⟩)] (some [1,2])) (.seq (.ops 1 [ (0,⟨some 3,none,.mv (.k (.d (.val (.slice none 0 0))))⟩)] (some [1,2,3])) (.seq (.seq (.ops 2 [ (0,⟨some 6,none,.load (some 8) (.t 1)⟩),(1,⟨some 7,none,.call 51 [(.t 6)] none false⟩)] (some [1,2,3,7])) (.cond (.t 7) (.seq (.ops 2 [ (0,⟨some 8,none,.build [(.int .u64 0),(.int .u64 0),(.int .u64 0),(.int .u64 0)] []⟩),(1,⟨none,none,.store 4 (.t 2) (.t 8)⟩)] (some [2])) .ret) .skip)) (.seq (.seq (.ops 2 [ (0,⟨some 9,none,.fadd 0 (.t 1)⟩),(1,⟨some 10,none,.load none (.t 9)⟩)] (some [1,2,3,10])) (.block 0 (.seq (.ops 2 [ (0,⟨some 12,none,.arith .eql (.t 10) (.k (.d (.val (.int .i64 2))))⟩),(1,⟨some 11,none,.mv (.t 12)⟩)] (some [1,2,3,10,11])) (.cond (.t 11) (.seq (.ops 3 [ (0,⟨some 13,none,.fadd 1 (.t 1)⟩),(1,⟨some 14,none,.load (some 4) (.t 13)⟩),(2,⟨none,none,.store 4 (.t 2) (.t 14)⟩)] (some [2])) .ret) (.seq (.ops 2 [ (0,⟨some 16,none,.arith .eql (.t 10) (.k (.d (.val (.int .i64 3))))⟩),(1,⟨some 15,none,.mv (.t 16)⟩)] (some [1,2,3,10,15])) (.cond (.t 15) (.seq (.ops 1 [ (0,⟨some 4,none,.mv (.k (.d (.val (.int .i64 0))))⟩)] (some [1,2,3,4])) (.block 1 (.loop (.seq (.seq (.ops 5 [ (0,⟨some 17,none,.mv (.t 4)⟩),(1,⟨some 18,none,.fadd 7 (.t 1)⟩),(2,⟨some 19,none,.load none (.t 18)⟩),(3,⟨some 20,none,.lenS (.t 19)⟩),(4,⟨some 21,none,.arith .lss (.t 17) (.t 20)⟩)] (some [1,2,3,4,21])) (.cond (.t 21) .skip (.exit 1))) (.seq (.block 2 (.seq (.ops 10 [ (0,⟨some 24,none,.mv (.t 3)⟩),(1,⟨some 25,none,.fadd 7 (.t 1)⟩),(2,⟨some 26,none,.load none (.t 25)⟩),(3,⟨some 27,none,.mv (.t 4)⟩),(4,⟨some 28,none,.idxS 8 (.t 26) (.t 27)⟩),(5,⟨some 29,none,.load (some 8) (.t 28)⟩),(6,⟨some 30,none,.call 50 [(.t 29)] none false⟩),(7,⟨some 31,none,.call 74 [(.t 30)] none false⟩),(8,⟨some 32,none,.app [(.int .i64 0)] 8 (.t 24) (.t 31)⟩),(9,⟨some 3,none,.mv (.t 32)⟩)] (some [1,2,3,4])) (.seq (.ops 7 [ (0,⟨some 33,none,.fadd 7 (.t 1)⟩),(1,⟨some 34,none,.load none (.t 33)⟩),(2,⟨some 35,none,.mv (.t 4)⟩),(3,⟨some 36,none,.idxS 8 (.t 34) (.t 35)⟩),(4,⟨some 37,none,.load (some 8) (.t 36)⟩),(5,⟨some 38,none,.call 72 [(.t 37)] none false⟩),(6,⟨some 39,none,.un .not (.t 38)⟩)] (some [1,2,3,4,39])) (.cond (.t 39) (.exit 1) .skip)))) (.ops 3 [ (0,⟨some 22,none,.mv (.t 4)⟩),(1,⟨some 23,none,.arith .add (.t 22) (.k (.d (.val (.int .i64 1))))⟩),(2,⟨some 4,none,.mv (.t 23)⟩)] (some [1,2,3,4]))))))) (.seq (.ops 2 [ (0,⟨some 41,none,.arith .eql (.t 10) (.k (.d (.val (.int .i64 4))))⟩),(1,⟨some 40,none,.mv (.t 41)⟩)] (some [1,2,3,10,40])) (.cond (.t 40) (.seq (.ops 1 [ (0,⟨some 5,none,.mv (.k (.d (.val (.int .i64 0))))⟩)] (some [1,2,3,5])) (.block 3 (.loop (.seq (.seq (.ops 5 [ (0,⟨some 42,none,.mv (.t 5)⟩),(1,⟨some 43,none,.fadd 7 (.t 1)⟩),(2,⟨some 44,none,.load none (.t 43)⟩),(3,⟨some 45,none,.lenS (.t 44)⟩),(4,⟨some 46,none,.arith .lss (.t 42) (.t 45)⟩)] (some [1,2,3,5,46])) (.cond (.t 46) .skip (.exit 3))) (.seq (.block 4 (.ops 10 [ (0,⟨some 49,none,.mv (.t 3)⟩),(1,⟨some 50,none,.fadd 7 (.t 1)⟩),(2,⟨some 51,none,.load none (.t 50)⟩),(3,⟨some 52,none,.mv (.t 5)⟩),(4,⟨some 53,none,.idxS 8 (.t 51) (.t 52)⟩),(5,⟨some 54,none,.load (some 8) (.t 53)⟩),(6,⟨some 55,none,.call 50 [(.t 54)] none false⟩),(7,⟨some 56,none,.call 74 [(.t 55)] none false⟩),(8,⟨some 57,none,.app [(.int .i64 0)] 8 (.t 49) (.t 56)⟩),(9,⟨some 3,none,.mv (.t 57)⟩)] (some [1,2,3,5]))) (.ops 3 [ (0,⟨some 47,none,.mv (.t 5)⟩),(1,⟨some 48,none,.arith .add (.t 47) (.k (.d (.val (.int .i64 1))))⟩),(2,⟨some 5,none,.mv (.t 48)⟩)] (some [1,2,3,5]))))))) (.seq (.ops 2 [ (0,⟨some 59,none,.arith .eql (.t 10) (.k (.d (.val (.int .i64 5))))⟩),(1,⟨some 58,none,.mv (.t 59)⟩)] (some [1,2,3,58])) (.cond (.t 58) (.seq (.ops 3 [ (0,⟨some 60,none,.fadd 6 (.t 1)⟩),(1,⟨some 61,none,.load none (.t 60)⟩),(2,⟨some 62,none,.arith .neq (.t 61) (.k (.d (.val (.int .i64 0))))⟩)] (some [1,2,3,62])) (.cond (.t 62) (.seq (.ops 6 [ (0,⟨some 63,none,.fadd 7 (.t 1)⟩),(1,⟨some 64,none,.load none (.t 63)⟩),(2,⟨some 65,none,.idxS 8 (.t 64) (.k (.d (.val (.int .i64 0))))⟩),(3,⟨some 66,none,.load (some 8) (.t 65)⟩),(4,⟨some 67,none,.call 50 [(.t 66)] none false⟩),(5,⟨none,none,.store 4 (.t 2) (.t 67)⟩)] (some [2])) .ret) .skip)) .skip)))))))))) (.seq (.ops 3 [ (0,⟨some 68,none,.mv (.t 3)⟩),(1,⟨some 69,none,.call 99 [(.t 68)] none false⟩),(2,⟨none,none,.store 4 (.t 2) (.t 69)⟩)] (some [2])) .ret)))))
def md50 : FuncId→Option Nat × Bool
  | _=>(none,false)
def od50 : Nat→List (List Nat) × List Nat × Option (List Nat)
  | 0=>([],[],some [1,2])
  | 1=>([],[],some [1,2,3])
  | 2=>([],[],some [1,2,3,7])
  | 3=>([],[],some [2])
  | 4=>([],[],some [1,2,3,10])
  | 5=>([],[],some [1,2,3,10,11])
  | 6=>([],[],some [2])
  | 7=>([],[],some [1,2,3,10,15])
  | 8=>([],[],some [1,2,3,4])
  | 9=>([],[],some [1,2,3,4,21])
  | 10=>([],[],some [1,2,3,4])
  | 11=>([],[],some [1,2,3,4])
  | 12=>([],[],some [1,2,3,4,39])
  | 13=>([],[],some [1,2,3,10,40])
  | 14=>([],[],some [1,2,3,5])
  | 15=>([],[],some [1,2,3,5,46])
  | 16=>([],[],some [1,2,3,5])
  | 17=>([],[],some [1,2,3,5])
  | 18=>([],[],some [1,2,3,58])
  | 19=>([],[],some [1,2,3,62])
  | 20=>([],[],some [2])
  | 21=>([],[],some [2])
  | _=>([],[],none)
theorem b50 {ags : List AV} {row : Option (List DV)} {r : AV} {row' nw : Option (List DV)} (hal : ags.length≤70) (hrow : row'.isSome=true→row.isSome=true) (h : xwp Try.prog x50 (retK [.cell 2 (some 4)] row.isSome r row' nw) (St.init ags row)) : Good Try.prog 50 ags row r row' nw :=
  good_of_body' (md:=md50) (od:=od50) Try.f50 (by kernel_rfl) (by kernel_rfl) (by kernel_rfl) (by kernel_rfl) (by kernel_rfl) hal hrow h

noncomputable def firstW (t : T) : List Int:=setWs (firstL (L t))
theorem firstW_ok (t : T) : okWs (firstW t)∧∀ y,y < 256→(inWs (firstW t) y=true↔∃ w,L t (y :: w)):=by
  obtain ⟨h1,h2⟩:=setWs_ok (firstL_lt (L t))
  refine ⟨h1,fun y hy=>?_⟩
  unfold firstW
  rw [h2 y hy,mem_firstL]
  exact ⟨fun h=>h.2,fun h=>⟨hy,h⟩⟩
theorem words4 {ws : List Int} (h : okWs ws) : ∃ w0 w1 w2 w3,ws=[w0,w1,w2,w3]∧okW w0∧okW w1∧okW w2∧okW w3:=by
  match ws,h.1,h.2 with
  | [w0,w1,w2,w3],_,h2=>exact ⟨w0,w1,w2,w3,rfl,h2 w0 (by simp),h2 w1 (by simp),h2 w2 (by simp),h2 w3 (by simp)⟩
set_option maxRecDepth 100000
set_option maxHeartbeats 4000000
attribute [local irreducible] W E R KP thenK blockK retK Good xwp aRun
theorem first50_good : ∀ (n : Nat) (t : T),t.cnt≤n→n≤300000→okT t→Good Try.prog 50 [nodeA t] none (.agg (encW (firstW t))) none none:=by
  intro n
  induction n with
  | zero=>intro t ht;have:=cnt_pos t;omega
  | succ n ih =>
  intro t ht hc hok
  have hnn:=none51_good 300000 t (by omega) (by omega) hok
  have hnL:=nnT_L t hok
  have hS:=okT_S hok
  have hfw:=firstW_ok t
  have hdef : firstW t=setWs (firstL (L t)):=rfl
  obtain ⟨k,a,b,c,d,mn,mx,subs⟩:=t
  have hR:=okT_R hok
  have hoks:=okT_subs hok
  have hpl:=okT_plain hok
  have hcs : ∀ i (h : i < subs.length),subs[i].cnt≤n:=fun i h=>by
    have:=cntL_get subs i h
    simp only [T.cnt] at ht
    omega
  have ih' : ∀ i (h : i < subs.length),Good Try.prog 50 [nodeA subs[i]] none (.agg (encW (firstW subs[i]))) none none:=fun i h=>ih _ (hcs i h) (by omega) (okL_get subs i h hoks)
  have hnu : ∀ i (h : i < subs.length),Good Try.prog 72 [nodeA subs[i]] none (.b (nullS subs[i])) none none:=fun i h=>null72_good _ (by have:=hcs i h;omega) (okL_get subs i h hoks)
  have hlen : subs.length≤300000:=by
    have:=cntL_len subs
    simp only [T.cnt] at ht
    omega
  have e0 : nodeA (.node k a b c d mn mx subs)=.agg [.i k,.d (.val (.int .u64 a)),.d (.val (.int .u64 b)),.d (.val (.int .u64 c)),.d (.val (.int .u64 d)),.i mn,.i mx,.d (.sl (encL subs) subs.length)]:=rfl
  have hkind:=(plainT_kind hpl).1
  have hk5 : k=5→∃ u,subs=[u]:=fun h5=>by subst h5;exact plainT_5 hpl
  rw [e0] at hnn
  rw [e0]
  rcases Bool.eq_false_or_eq_true (nnT (.node k a b c d mn mx subs)) with hq | hq
  · rw [hq] at hnn
    have e : firstW (.node k a b c d mn mx subs)=[0,0,0,0]:=by
      rw [hdef,firstL_none (hnL.1 hq)];rfl
    rw [e]
    refine b50 (by simp) (by simp) (w_init ?_)
    unfold x50
    repeat' (first|(apply r_mvV;rfl)|(apply r_ldL (v:=.agg [.i k,.d (.val (.int .u64 a)),.d (.val (.int .u64 b)),.d (.val (.int .u64 c)),.d (.val (.int .u64 d)),.i mn,.i mx,.d (.sl (encL subs) subs.length)]);rfl;rfl;rfl)|(apply r_callA;rfl;rfl;exact hnn)|(apply r_p (v:=.agg [.d (.val (.int .u64 0)),.d (.val (.int .u64 0)),.d (.val (.int .u64 0)),.d (.val (.int .u64 0))]);rfl)|(apply r_alloc;((conv=>lhs;simp only [Nat.reduceAdd])<;>rfl);rfl)|(apply r_box;((conv=>lhs;simp only [Nat.reduceAdd])<;>rfl);rfl;rfl;rfl)|(apply r_stL;rfl;rfl;rfl;rfl;(first|rfl|(simp only [z_nil,z_add]<;>rfl));rfl;rfl)|(apply r_nilK)|(apply k_V;rfl)|(apply k_PL;rfl)|(apply k_nil)|(apply e_ret;rfl)|(apply w_seq)|(apply w_ops;((conv=>lhs;simp only [Nat.reduceAdd])<;>rfl))|(apply w_condT;rfl)|(apply e_thenN)|(apply e_thenR)|(apply w_ret))
    exact .data _ rfl
  rw [hq] at hnn
  have hsome : ¬ ∀ w,¬ L (.node k a b c d mn mx subs) w:=fun h=>by rw [hnL.2 h] at hq;cases hq
  by_cases h2 : k=2
  · have e : firstW (.node k a b c d mn mx subs)=[a,b,c,d]:=by
      refine words_ext hfw.1 ⟨rfl,fun w hw=>?_⟩ fun y hy=>?_
      · simp only [List.mem_cons,List.not_mem_nil,or_false] at hw
        rcases hw with rfl | rfl | rfl | rfl
        · exact hS.1
        · exact hS.2.1
        · exact hS.2.2.1
        · exact hS.2.2.2
      · rw [Bool.eq_iff_iff,hfw.2 y hy]
        subst h2
        constructor
        · rintro ⟨w,hw⟩
          rw [L_k2] at hw
          obtain ⟨x,e,hx⟩:=hw
          simp only [List.cons.injEq] at e
          obtain ⟨rfl,rfl⟩:=e
          exact hx
        · intro hx;exact ⟨[],L_k2.2 ⟨y,rfl,hx⟩⟩
    rw [e]
    refine b50 (by simp) (by simp) (w_init ?_)
    unfold x50
    repeat' (first|(apply r_mvV;rfl)|(apply r_faddL;rfl)|(apply r_ldL (v:=.agg [.i k,.d (.val (.int .u64 a)),.d (.val (.int .u64 b)),.d (.val (.int .u64 c)),.d (.val (.int .u64 d)),.i mn,.i mx,.d (.sl (encL subs) subs.length)]);rfl;rfl;rfl)|(apply r_callA;rfl;rfl;exact hnn)|(apply r_ldL (v:=.agg [.d (.val (.int .u64 a)),.d (.val (.int .u64 b)),.d (.val (.int .u64 c)),.d (.val (.int .u64 d))]);rfl;rfl;rfl)|(apply r_ldL;rfl;rfl;rfl)|(apply r_eql;rfl;rfl;(first|(apply dT;omega)|(apply dF;omega)|rfl))|(apply r_alloc;((conv=>lhs;simp only [Nat.reduceAdd])<;>rfl);rfl)|(apply r_box;((conv=>lhs;simp only [Nat.reduceAdd])<;>rfl);rfl;rfl;rfl)|(apply r_stL;rfl;rfl;rfl;rfl;(first|rfl|(simp only [z_nil,z_add]<;>rfl));rfl;rfl)|(apply r_nilK)|(apply k_V;rfl)|(apply k_PL;rfl)|(apply k_nil)|(apply e_ret;rfl)|(apply w_seq)|(apply w_ops;((conv=>lhs;simp only [Nat.reduceAdd])<;>rfl))|(apply w_condT;rfl)|(apply w_condF;rfl)|(apply e_thenN)|(apply w_block)|(apply e_thenR)|(apply e_blkR)|(apply w_ret)|(apply w_skip))
    exact .data _ rfl
  by_cases h3 : k=3
  · have hall : ∀ j (h : j < subs.length),∃ w,L subs[j] w:=by
      intro j hj
      refine Classical.byContradiction fun hcn=>?_
      refine hsome fun w hw=>?_
      subst h3
      rw [L_k3] at hw
      have key : ∀ (l : List T) (w : List Nat),catL l w→∀ j (h : j < l.length),∃ w,L l[j] w:=by
        intro l
        induction l with
        | nil=>intro w _ j h;simp at h
        | cons t l ih =>
          rintro w ⟨u,v,_,hu,hv⟩ j h
          cases j with
          | zero=>exact ⟨u,hu⟩
          | succ j=>exact ih v hv j (by simpa using h)
      exact hcn (key subs w hw j hj)
    have hcf:=catL_first subs hall
    have hend : ∀ (i : Nat) (bytes : List Nat),(∀ x ∈ bytes,x < 256)→bytes.length≤256 * (i + 1)→i≤subs.length→(∀ j (h : j < subs.length),j < i→L subs[j] [])→(∀ y,y < 256→(y ∈ bytes↔∃ j,∃ h : j < subs.length,j≤i∧∃ w,L subs[j] (y :: w)))→(∀ h : i < subs.length,¬ L subs[i] [])→setWs bytes=firstW (.node k a b c d mn mx subs):=by
      intro i bytes hb _ hi hnul hmem hlast
      rw [hdef]
      refine first_eq hb fun y hy=>?_
      rw [hmem y hy]
      subst h3
      simp only [L_k3]
      rw [hcf y]
      constructor
      · rintro ⟨j,hj,hji,hw⟩
        exact ⟨j,hj,fun i' hi' hlt=>hnul i' hi' (by omega),hw⟩
      · rintro ⟨j,hj,hall2,hw⟩
        refine ⟨j,hj,?_,hw⟩
        rcases Nat.lt_or_ge i j with h | h
        · exact absurd (hall2 i (by omega) h) (hlast (by omega))
        · exact h
    clear hsome hcf hdef ih ht hok hoks hpl hR hS hnL
    generalize firstW (.node k a b c d mn mx subs)=fw at hfw hend ⊢
    obtain ⟨w0,w1,w2,w3,rfl,_⟩:=words4 hfw.1
    clear hfw
    refine b50 (by simp) (by simp) (w_init ?_)
    unfold x50
    repeat' (first|(apply r_mvV;rfl)|(apply r_faddL;rfl)|(apply r_ldL (v:=.agg [.i k,.d (.val (.int .u64 a)),.d (.val (.int .u64 b)),.d (.val (.int .u64 c)),.d (.val (.int .u64 d)),.i mn,.i mx,.d (.sl (encL subs) subs.length)]);rfl;rfl;rfl)|(apply r_callA;rfl;rfl;exact hnn)|(apply r_ldL;rfl;rfl;rfl)|(apply r_eql;rfl;rfl;(first|(apply dT;omega)|(apply dF;omega)|rfl))|(apply r_alloc;((conv=>lhs;simp only [Nat.reduceAdd])<;>rfl);rfl)|(apply r_box;((conv=>lhs;simp only [Nat.reduceAdd])<;>rfl);rfl;rfl;rfl)|(apply r_nilK)|(apply k_V;rfl)|(apply k_PL;rfl)|(apply k_nil)|(apply w_seq)|(apply w_ops;((conv=>lhs;simp only [Nat.reduceAdd])<;>rfl))|(apply w_condT;rfl)|(apply w_condF;rfl)|(apply e_thenN)|(apply w_block)|(apply w_skip))
    apply w_loopI (ι:=Nat × List Nat) (S:=fun z=>⟨(((Fr.nil.put 1 (.ptrL 1 0)).put 2 (.ptrL 2 0)).put 3 (.slL 50 0 z.2.length 1)).put 4 (.i z.1),rowsOf [(1,[.i k,.d (.val (.int .u64 a)),.d (.val (.int .u64 b)),.d (.val (.int .u64 c)),.d (.val (.int .u64 d)),.i mn,.i mx,.d (.sl (encL subs) subs.length)]),(2,[.d (.val (.int .u64 0)),.d (.val (.int .u64 0)),.d (.val (.int .u64 0)),.d (.val (.int .u64 0))]),(50,(encI (encJ z.2)).map AV.d)],Frz.buts 100 [2,50],100⟩) (m:=fun z=>subs.length - z.1) (I:=fun z=>z.1≤subs.length∧(∀ x ∈ z.2,x < 256)∧z.2.length≤256 * z.1∧(∀ j (h : j < subs.length),j < z.1→L subs[j] [])∧∀ y,y < 256→(y ∈ z.2↔∃ j,∃ h : j < subs.length,j < z.1∧∃ w,L subs[j] (y :: w))) (i0:=(0,[]))
    · exact ⟨Nat.zero_le _,by simp,by simp,fun j _ h=>by omega,fun y _=>⟨fun h=>by simp at h,fun ⟨j,_,h,_⟩=>by omega⟩⟩
    · refine wkM [(50,1000000)] [50] rfl ?_ ?_ rfl ?_
      · intro p hp
        simp only [List.mem_cons,List.not_mem_nil,or_false] at hp
        rcases hp with rfl | rfl | rfl
        · exact ⟨by omega,.inr ⟨rfl,_,rfl,.data rfl⟩⟩
        · exact ⟨by omega,.inr ⟨rfl,_,rfl,.data rfl⟩⟩
        · exact ⟨by omega,.inl ⟨rfl,rfl⟩⟩
      · intro q hq;simp only [List.mem_cons,List.not_mem_nil,or_false] at hq;rcases hq with rfl | rfl<;>rfl
      · dsimp only
        repeat' (first|exact FWk.nil|(apply FWk.i;rfl;(first|rfl|omega|(simp;done)))|(apply FWk.ptr;rfl;rfl;rfl;omega;rfl)|(apply FWk.slN;rfl;omega;rfl))
    rintro ⟨i,bytes⟩ K ⟨hi,hb,hbl,hnul,hmem⟩ hK
    dsimp only at hi hb hbl hnul hmem hK ⊢
    rcases Nat.lt_or_ge i subs.length with hlt | hge
    · have hs:=NodeAt.sub hlt
      have hg:=ih' i hlt
      have hn:=hnu i hlt
      have hok2:=firstW_ok subs[i]
      have hna : [nodeA subs[i]].all AV.nrm=true:=by rw [List.all_cons,nodeA_nrm];rfl
      have hnb : nullS subs[i]=true↔L subs[i] []:=by simp only [nullS,decide_eq_true_eq]
      obtain ⟨v0,v1,v2,v3,hv,g0,g1,g2,g3⟩:=words4 hok2.1
      rw [hv] at hg hok2
      have h74:=list74_good g0 g1 g2 g3
      unfold setA at h74
      have hm2 : ∀ y,y < 256→(y ∈ bytes++listTo v0 v1 v2 v3 256↔∃ j,∃ h : j < subs.length,j < i + 1∧∃ w,L subs[j] (y :: w)):=by
        intro y hy
        rw [List.mem_append,hmem y hy,mem_listTo]
        have h1 : inG v0 v1 v2 v3 y=true↔∃ w,L subs[i] (y :: w):=hok2.2 y hy
        rw [h1]
        constructor
        · rintro (⟨j,hj,hji,hw⟩ | ⟨_,hw⟩)
          · exact ⟨j,hj,by omega,hw⟩
          · exact ⟨i,hlt,by omega,hw⟩
        · rintro ⟨j,hj,hji,hw⟩
          by_cases e : j=i
          · subst e;exact .inr ⟨hy,hw⟩
          · exact .inl ⟨j,hj,by omega,hw⟩
      have hb2 : ∀ x ∈ bytes++listTo v0 v1 v2 v3 256,x < 256:=by
        intro x hx
        rcases List.mem_append.1 hx with hx | hx
        · exact hb x hx
        · exact ((mem_listTo _ _ _ _ x 256).1 hx).1
      have hll:=listTo_len v0 v1 v2 v3 256
      have hbl2 : (bytes++listTo v0 v1 v2 v3 256).length≤256 * (i + 1):=by rw [List.length_append];omega
      have hjl : (encJ bytes++encJ (listTo v0 v1 v2 v3 256)).length=bytes.length + (listTo v0 v1 v2 v3 256).length:=by rw [List.length_append,encJ_len,encJ_len]
      clear hok2 hv g0 g1 g2 g3 ih' hnu
      rcases Bool.eq_false_or_eq_true (nullS subs[i]) with hnq | hnq
      · rw [hnq] at hn hnb
        repeat' (first|(apply r_mvV;rfl)|(apply r_mvSL;rfl)|(apply r_faddL;rfl)|(apply r_l;apply ld_node';assumption;rfl)|(apply r_p;apply ix_sub;rfl;rfl;omega)|(apply r_callA (f:=50) (ags:=[nodeA subs[i]]);rfl;exact hna;exact hg)|(apply r_callA (f:=74);rfl;rfl;exact h74)|(apply r_appI (b:=50) (id:=113) (K:=encJ bytes) (L:=encJ (listTo v0 v1 v2 v3 256));rfl;rfl;rfl;rfl;rfl;exact encJ_len _;exact encJ_len _;omega)|(apply r_callA (f:=72) (ags:=[nodeA subs[i]]);rfl;exact hna;exact hn)|(apply r_ldL;rfl;rfl;rfl)|(apply r_lss;rfl;rfl;(first|(apply dT;omega)|(apply dF;omega)|rfl))|(apply r_add;rfl;rfl;rfl;omega)|(apply r_not;rfl;rfl)|(apply r_lenD;rfl)|(apply r_nilK)|(apply k_V;rfl)|(apply k_PL;rfl)|(apply k_SL;rfl)|(apply k_nil)|(apply w_seq)|(apply w_ops;((conv=>lhs;simp only [Nat.reduceAdd])<;>rfl))|(apply w_condT;rfl)|(apply w_condF;rfl)|(apply e_thenN)|(apply w_block)|(apply e_blkN)|(apply w_skip))
        apply e_thenK
        apply hK (i + 1,bytes++listTo v0 v1 v2 v3 256)
        · refine ⟨by dsimp only;omega,hb2,hbl2,fun j hj hji=>?_,hm2⟩
          by_cases e : j=i
          · subst e;exact hnb.1 rfl
          · exact hnul j hj (by dsimp only at hji;omega)
        · dsimp only;omega
        · dsimp only
          rw [encJ_app]
          refine wkM [(50,113)] [] rfl ?_ ?_ rfl ?_
          · intro p hp;simp only [List.mem_cons,List.not_mem_nil,or_false] at hp;rcases hp with rfl | rfl | rfl<;>first | exact ⟨by omega,.inr ⟨rfl,_,rfl,.data rfl⟩⟩ | exact ⟨by omega,.inr ⟨rfl,_,rfl,.data encI_isD⟩⟩
          · intro q hq;simp only [List.mem_cons,List.not_mem_nil,or_false] at hq;rcases hq with rfl | rfl<;>rfl
          · rw [List.length_append]
            repeat' (first|exact FWk.nil|(apply FWk.i;rfl;(first|rfl|omega|(simp;done)))|(apply FWk.sl;rfl;rfl;rfl;rfl;omega;rfl)|(apply FWk.ptr;rfl;rfl;rfl;omega;rfl))
      · rw [hnq] at hn hnb
        have hfin:=hend i _ hb2 hbl2 hi (fun j hj hji=>hnul j hj hji) (fun y hy=>by rw [hm2 y hy];exact ⟨fun ⟨j,hj,h,hw⟩=>⟨j,hj,by omega,hw⟩,fun ⟨j,hj,h,hw⟩=>⟨j,hj,by omega,hw⟩⟩) (fun _ h=>by have:=hnb.2 h;cases this)
        have h99:=set99_good _ hb2 (by omega)
        rw [hfin] at h99
        rw [encJ_app,List.length_append] at h99
        repeat' (first|(apply r_mvV;rfl)|(apply r_mvSL;rfl)|(apply r_faddL;rfl)|(apply r_l;apply ld_node';assumption;rfl)|(apply r_p;apply ix_sub;rfl;rfl;omega)|(apply r_callA (f:=50) (ags:=[nodeA subs[i]]);rfl;exact hna;exact hg)|(apply r_callA (f:=74);rfl;rfl;exact h74)|(apply r_appI (b:=50) (id:=113) (K:=encJ bytes) (L:=encJ (listTo v0 v1 v2 v3 256));rfl;rfl;rfl;rfl;rfl;exact encJ_len _;exact encJ_len _;omega)|(apply r_callA (f:=72) (ags:=[nodeA subs[i]]);rfl;exact hna;exact hn)|(apply r_callLI (b:=113) (L:=encJ bytes++encJ (listTo v0 v1 v2 v3 256)) (us:=[]);rfl;rfl;exact hjl;exact h99;rfl)|(apply r_ldL;rfl;rfl;rfl)|(apply r_lss;rfl;rfl;(first|(apply dT;omega)|(apply dF;omega)|rfl))|(apply r_not;rfl;rfl)|(apply r_lenD;rfl)|(apply r_stL;rfl;rfl;rfl;rfl;(first|rfl|(simp only [z_nil,z_add]<;>rfl));rfl;rfl)|(apply r_nilK)|(apply k_V;rfl)|(apply k_PL;rfl)|(apply k_SL;rfl)|(apply k_nil)|(apply e_ret;rfl)|(apply w_seq)|(apply w_ops;((conv=>lhs;simp only [Nat.reduceAdd])<;>rfl))|(apply w_condT;rfl)|(apply e_thenN)|(apply w_block)|(apply e_thenX)|(apply e_blkN)|(apply e_blkE)|(apply w_exit)|(apply w_ret)|(apply w_skip)|(apply e_blkE';rfl))
        exact .data _ rfl
    · have ei : i=subs.length:=by omega
      subst ei
      have hfin:=hend subs.length bytes hb (by omega) (Nat.le_refl _) hnul (fun y hy=>by rw [hmem y hy];exact ⟨fun ⟨j,hj,h,hw⟩=>⟨j,hj,by omega,hw⟩,fun ⟨j,hj,h,hw⟩=>⟨j,hj,by omega,hw⟩⟩) (fun h=>by omega)
      have h99:=set99_good bytes hb (by omega)
      rw [hfin] at h99
      repeat' (first|(apply r_mvV;rfl)|(apply r_mvSL;rfl)|(apply r_faddL;rfl)|(apply r_callLI (b:=50) (L:=encJ bytes) (us:=[]);rfl;rfl;exact encJ_len _;exact h99;rfl)|(apply r_ldL;rfl;rfl;rfl)|(apply r_lss;rfl;rfl;(first|(apply dT;omega)|(apply dF;omega)|rfl))|(apply r_lenD;rfl)|(apply r_stL;rfl;rfl;rfl;rfl;(first|rfl|(simp only [z_nil,z_add]<;>rfl));rfl;rfl)|(apply r_nilK)|(apply k_V;rfl)|(apply k_PL;rfl)|(apply k_SL;rfl)|(apply k_nil)|(apply e_ret;rfl)|(apply w_seq)|(apply w_ops;((conv=>lhs;simp only [Nat.reduceAdd])<;>rfl))|(apply w_condF;rfl)|(apply e_thenN)|(apply e_thenX)|(apply e_blkN)|(apply e_blkE)|(apply w_exit)|(apply w_ret))
      exact .data _ rfl
  by_cases h4 : k=4
  · have hend : ∀ (bytes : List Nat),(∀ x ∈ bytes,x < 256)→(∀ y,y < 256→(y ∈ bytes↔∃ j,∃ h : j < subs.length,j < subs.length∧∃ w,L subs[j] (y :: w)))→setWs bytes=firstW (.node k a b c d mn mx subs):=by
      intro bytes hb hmem
      rw [hdef]
      refine first_eq hb fun y hy=>?_
      rw [hmem y hy]
      subst h4
      simp only [L_k4]
      rw [altL_first]
      exact ⟨fun ⟨j,hj,_,hw⟩=>⟨j,hj,hw⟩,fun ⟨j,hj,hw⟩=>⟨j,hj,hj,hw⟩⟩
    clear hsome hdef ih ht hok hoks hpl hR hS hnL hnu
    generalize firstW (.node k a b c d mn mx subs)=fw at hfw hend ⊢
    obtain ⟨w0,w1,w2,w3,rfl,_⟩:=words4 hfw.1
    clear hfw
    refine b50 (by simp) (by simp) (w_init ?_)
    unfold x50
    repeat' (first|(apply r_mvV;rfl)|(apply r_faddL;rfl)|(apply r_ldL (v:=.agg [.i k,.d (.val (.int .u64 a)),.d (.val (.int .u64 b)),.d (.val (.int .u64 c)),.d (.val (.int .u64 d)),.i mn,.i mx,.d (.sl (encL subs) subs.length)]);rfl;rfl;rfl)|(apply r_callA;rfl;rfl;exact hnn)|(apply r_ldL;rfl;rfl;rfl)|(apply r_eql;rfl;rfl;(first|(apply dT;omega)|(apply dF;omega)|rfl))|(apply r_alloc;((conv=>lhs;simp only [Nat.reduceAdd])<;>rfl);rfl)|(apply r_box;((conv=>lhs;simp only [Nat.reduceAdd])<;>rfl);rfl;rfl;rfl)|(apply r_nilK)|(apply k_V;rfl)|(apply k_PL;rfl)|(apply k_nil)|(apply w_seq)|(apply w_ops;((conv=>lhs;simp only [Nat.reduceAdd])<;>rfl))|(apply w_condT;rfl)|(apply w_condF;rfl)|(apply e_thenN)|(apply w_block)|(apply w_skip))
    apply w_loopI (ι:=Nat × List Nat) (S:=fun z=>⟨(((Fr.nil.put 1 (.ptrL 1 0)).put 2 (.ptrL 2 0)).put 3 (.slL 50 0 z.2.length 1)).put 5 (.i z.1),rowsOf [(1,[.i k,.d (.val (.int .u64 a)),.d (.val (.int .u64 b)),.d (.val (.int .u64 c)),.d (.val (.int .u64 d)),.i mn,.i mx,.d (.sl (encL subs) subs.length)]),(2,[.d (.val (.int .u64 0)),.d (.val (.int .u64 0)),.d (.val (.int .u64 0)),.d (.val (.int .u64 0))]),(50,(encI (encJ z.2)).map AV.d)],Frz.buts 100 [2,50],100⟩) (m:=fun z=>subs.length - z.1) (I:=fun z=>z.1≤subs.length∧(∀ x ∈ z.2,x < 256)∧z.2.length≤256 * z.1∧∀ y,y < 256→(y ∈ z.2↔∃ j,∃ h : j < subs.length,j < z.1∧∃ w,L subs[j] (y :: w))) (i0:=(0,[]))
    · exact ⟨Nat.zero_le _,by simp,by simp,fun y _=>⟨fun h=>by simp at h,fun ⟨j,_,h,_⟩=>by omega⟩⟩
    · refine wkM [(50,1000000)] [50] rfl ?_ ?_ rfl ?_
      · intro p hp
        simp only [List.mem_cons,List.not_mem_nil,or_false] at hp
        rcases hp with rfl | rfl | rfl
        · exact ⟨by omega,.inr ⟨rfl,_,rfl,.data rfl⟩⟩
        · exact ⟨by omega,.inr ⟨rfl,_,rfl,.data rfl⟩⟩
        · exact ⟨by omega,.inl ⟨rfl,rfl⟩⟩
      · intro q hq;simp only [List.mem_cons,List.not_mem_nil,or_false] at hq;rcases hq with rfl | rfl<;>rfl
      · dsimp only
        repeat' (first|exact FWk.nil|(apply FWk.i;rfl;(first|rfl|omega|(simp;done)))|(apply FWk.ptr;rfl;rfl;rfl;omega;rfl)|(apply FWk.slN;rfl;omega;rfl))
    rintro ⟨i,bytes⟩ K ⟨hi,hb,hbl,hmem⟩ hK
    dsimp only at hi hb hbl hmem hK ⊢
    rcases Nat.lt_or_ge i subs.length with hlt | hge
    · have hs:=NodeAt.sub hlt
      have hg:=ih' i hlt
      have hok2:=firstW_ok subs[i]
      have hna : [nodeA subs[i]].all AV.nrm=true:=by rw [List.all_cons,nodeA_nrm];rfl
      obtain ⟨v0,v1,v2,v3,hv,g0,g1,g2,g3⟩:=words4 hok2.1
      rw [hv] at hg hok2
      have h74:=list74_good g0 g1 g2 g3
      unfold setA at h74
      have hm2 : ∀ y,y < 256→(y ∈ bytes++listTo v0 v1 v2 v3 256↔∃ j,∃ h : j < subs.length,j < i + 1∧∃ w,L subs[j] (y :: w)):=by
        intro y hy
        rw [List.mem_append,hmem y hy,mem_listTo]
        have h1 : inG v0 v1 v2 v3 y=true↔∃ w,L subs[i] (y :: w):=hok2.2 y hy
        rw [h1]
        constructor
        · rintro (⟨j,hj,hji,hw⟩ | ⟨_,hw⟩)
          · exact ⟨j,hj,by omega,hw⟩
          · exact ⟨i,hlt,by omega,hw⟩
        · rintro ⟨j,hj,hji,hw⟩
          by_cases e : j=i
          · subst e;exact .inr ⟨hy,hw⟩
          · exact .inl ⟨j,hj,by omega,hw⟩
      have hb2 : ∀ x ∈ bytes++listTo v0 v1 v2 v3 256,x < 256:=by
        intro x hx
        rcases List.mem_append.1 hx with hx | hx
        · exact hb x hx
        · exact ((mem_listTo _ _ _ _ x 256).1 hx).1
      have hll:=listTo_len v0 v1 v2 v3 256
      have hbl2 : (bytes++listTo v0 v1 v2 v3 256).length≤256 * (i + 1):=by rw [List.length_append];omega
      clear hok2 hv g0 g1 g2 g3 ih'
      repeat' (first|(apply r_mvV;rfl)|(apply r_mvSL;rfl)|(apply r_faddL;rfl)|(apply r_l;apply ld_node';assumption;rfl)|(apply r_p;apply ix_sub;rfl;rfl;omega)|(apply r_callA (f:=50) (ags:=[nodeA subs[i]]);rfl;exact hna;exact hg)|(apply r_callA (f:=74);rfl;rfl;exact h74)|(apply r_appI (b:=50) (id:=113) (K:=encJ bytes) (L:=encJ (listTo v0 v1 v2 v3 256));rfl;rfl;rfl;rfl;rfl;exact encJ_len _;exact encJ_len _;omega)|(apply r_ldL;rfl;rfl;rfl)|(apply r_lss;rfl;rfl;(first|(apply dT;omega)|(apply dF;omega)|rfl))|(apply r_add;rfl;rfl;rfl;omega)|(apply r_lenD;rfl)|(apply r_nilK)|(apply k_V;rfl)|(apply k_PL;rfl)|(apply k_SL;rfl)|(apply k_nil)|(apply w_seq)|(apply w_ops;((conv=>lhs;simp only [Nat.reduceAdd])<;>rfl))|(apply w_condT;rfl)|(apply e_thenN)|(apply w_block)|(apply e_blkN)|(apply w_skip))
      apply e_thenK
      apply hK (i + 1,bytes++listTo v0 v1 v2 v3 256)
      · exact ⟨by dsimp only;omega,hb2,hbl2,hm2⟩
      · dsimp only;omega
      · dsimp only
        rw [encJ_app]
        refine wkM [(50,113)] [] rfl ?_ ?_ rfl ?_
        · intro p hp;simp only [List.mem_cons,List.not_mem_nil,or_false] at hp;rcases hp with rfl | rfl | rfl<;>first | exact ⟨by omega,.inr ⟨rfl,_,rfl,.data rfl⟩⟩ | exact ⟨by omega,.inr ⟨rfl,_,rfl,.data encI_isD⟩⟩
        · intro q hq;simp only [List.mem_cons,List.not_mem_nil,or_false] at hq;rcases hq with rfl | rfl<;>rfl
        · rw [List.length_append]
          repeat' (first|exact FWk.nil|(apply FWk.i;rfl;(first|rfl|omega|(simp;done)))|(apply FWk.sl;rfl;rfl;rfl;rfl;omega;rfl)|(apply FWk.ptr;rfl;rfl;rfl;omega;rfl))
    · have ei : i=subs.length:=by omega
      subst ei
      have hfin:=hend bytes hb hmem
      have h99:=set99_good bytes hb (by omega)
      rw [hfin] at h99
      repeat' (first|(apply r_mvV;rfl)|(apply r_mvSL;rfl)|(apply r_faddL;rfl)|(apply r_callLI (b:=50) (L:=encJ bytes) (us:=[]);rfl;rfl;exact encJ_len _;exact h99;rfl)|(apply r_ldL;rfl;rfl;rfl)|(apply r_lss;rfl;rfl;(first|(apply dT;omega)|(apply dF;omega)|rfl))|(apply r_lenD;rfl)|(apply r_stL;rfl;rfl;rfl;rfl;(first|rfl|(simp only [z_nil,z_add]<;>rfl));rfl;rfl)|(apply r_nilK)|(apply k_V;rfl)|(apply k_PL;rfl)|(apply k_SL;rfl)|(apply k_nil)|(apply e_ret;rfl)|(apply w_seq)|(apply w_ops;((conv=>lhs;simp only [Nat.reduceAdd])<;>rfl))|(apply w_condF;rfl)|(apply e_thenN)|(apply e_thenX)|(apply e_blkN)|(apply e_blkE)|(apply w_exit)|(apply w_ret))
      exact .data _ rfl
  have h990:=set99_good [] (by simp) (by simp)
  by_cases h5 : k=5∧mx ≠ 0
  · obtain ⟨h5,hx⟩:=h5
    obtain ⟨u,hu⟩:=hk5 h5
    have hl1 : 0 < subs.length:=by rw [hu];simp
    have hg:=ih' 0 hl1
    have hs:=NodeAt.sub hl1
    have hu0 : subs[0]=u:=by simp [hu]
    rw [hu0] at hg hs
    have hr5:=hR h5
    have e : firstW (.node k a b c d mn mx subs)=firstW u:=by
      rw [hdef]
      refine (setWs_same (firstL_lt _) (firstL_lt _) fun y hy=>?_)
      rw [mem_firstL,mem_firstL]
      refine and_congr Iff.rfl ?_
      subst h5
      simp only [L_k5]
      rw [hu]
      have : ∀ w,fstL [u] w↔L u w:=fun w=>by rw [fstL]
      simp only [powL_congr this]
      exact rep_first hr5.1.1 (by omega) hx y
    rw [e]
    have hok2:=firstW_ok u
    obtain ⟨w0,w1,w2,w3,hv,_⟩:=words4 hok2.1
    rw [hv] at hg ⊢
    have hna : [nodeA u].all AV.nrm=true:=by rw [List.all_cons,nodeA_nrm];rfl
    clear hu0 hu hk5 ih' hnu hsome hdef ih ht hok hoks hpl hR hS hnL e hok2 hv hfw
    refine b50 (by simp) (by simp) (w_init ?_)
    unfold x50
    repeat' (first|(apply r_mvV;rfl)|(apply r_faddL;rfl)|(apply r_l;apply ld_node';assumption;rfl)|(apply r_ldL (v:=.agg [.i k,.d (.val (.int .u64 a)),.d (.val (.int .u64 b)),.d (.val (.int .u64 c)),.d (.val (.int .u64 d)),.i mn,.i mx,.d (.sl (encL subs) subs.length)]);rfl;rfl;rfl)|(apply r_callA (f:=51);rfl;rfl;exact hnn)|(apply r_p (v:=.d (.ptr (encL subs) 0));exact ix_sub0 rfl rfl hl1)|(apply r_callA (ags:=[nodeA u]);rfl;exact hna;exact hg)|(apply r_ldL;rfl;rfl;rfl)|(apply r_eql;rfl;rfl;(first|(apply dT;omega)|(apply dF;omega)|rfl))|(apply r_neq;rfl;rfl;(first|(apply dT;omega)|(apply dF;omega)|rfl))|(apply r_alloc;((conv=>lhs;simp only [Nat.reduceAdd])<;>rfl);rfl)|(apply r_box;((conv=>lhs;simp only [Nat.reduceAdd])<;>rfl);rfl;rfl;rfl)|(apply r_stL;rfl;rfl;rfl;rfl;(first|rfl|(simp only [z_nil,z_add]<;>rfl));rfl;rfl)|(apply r_nilK)|(apply k_V;rfl)|(apply k_PL;rfl)|(apply k_nil)|(apply e_ret;rfl)|(apply w_seq)|(apply w_ops;((conv=>lhs;simp only [Nat.reduceAdd])<;>rfl))|(apply w_condT;rfl)|(apply w_condF;rfl)|(apply e_thenN)|(apply w_block)|(apply e_thenR)|(apply e_blkR)|(apply w_ret)|(apply w_skip))
    exact .data _ rfl
  · have e : firstW (.node k a b c d mn mx subs)=[0,0,0,0]:=by
      have e2 : setWs []=firstW (.node k a b c d mn mx subs):=by
        rw [hdef]
        refine first_eq (by simp) fun y hy=>⟨fun h=>by simp at h,?_⟩
        rintro ⟨w,hw⟩
        exfalso
        rcases (show k=1 ∨ k=5 by omega) with rfl | rfl
        · rw [L_k1] at hw;cases hw
        · have hx : mx=0:=by
            rcases Int.lt_trichotomy mx 0 with h | h | h
            · exact absurd ⟨rfl,by omega⟩ h5
            · exact h
            · exact absurd ⟨rfl,by omega⟩ h5
          rw [L_k5] at hw
          obtain ⟨r,_,h2,h3⟩:=hw
          have : r=0:=by omega
          subst this
          simp [powL] at h3
      rw [← e2];rfl
    rw [e]
    have e2 : setWs []=[0,0,0,0]:=rfl
    rw [e2] at h990
    clear ih' hnu hsome hdef ih ht hok hoks hpl hR hS hnL e hfw hk5
    refine b50 (by simp) (by simp) (w_init ?_)
    unfold x50
    repeat' (first|(apply r_mvV;rfl)|(apply r_faddL;rfl)|(apply r_ldL (v:=.agg [.i k,.d (.val (.int .u64 a)),.d (.val (.int .u64 b)),.d (.val (.int .u64 c)),.d (.val (.int .u64 d)),.i mn,.i mx,.d (.sl (encL subs) subs.length)]);rfl;rfl;rfl)|(apply r_callA (f:=51);rfl;rfl;exact hnn)|(apply r_call (bs:=[.d (.sl [] 0)]) (us:=[]);rfl;rfl;exact h990;rfl)|(apply r_ldL;rfl;rfl;rfl)|(apply r_eql;rfl;rfl;(first|(apply dT;omega)|(apply dF;omega)|rfl))|(apply r_neq;rfl;rfl;(first|(apply dT;omega)|(apply dF;omega)|rfl))|(apply r_alloc;((conv=>lhs;simp only [Nat.reduceAdd])<;>rfl);rfl)|(apply r_box;((conv=>lhs;simp only [Nat.reduceAdd])<;>rfl);rfl;rfl;rfl)|(apply r_stL;rfl;rfl;rfl;rfl;(first|rfl|(simp only [z_nil,z_add]<;>rfl));rfl;rfl)|(apply r_nilK)|(apply k_V;rfl)|(apply k_PL;rfl)|(apply k_nil)|(apply e_ret;rfl)|(apply w_seq)|(apply w_ops;((conv=>lhs;simp only [Nat.reduceAdd])<;>rfl))|(apply w_condF;rfl)|((apply w_condS;rfl)<;>(intro h;try simp only [decide_eq_true_eq,decide_eq_false_iff_not,Bool.not_eq_true,Bool.not_eq_false] at h))|(apply e_thenN)|(apply w_block)|(apply e_blkN)|(apply w_ret)|(apply w_skip))
    all_goals exact .data _ rfl
end Go.Sv
namespace Go.Sv
open Go
def altT (t u : T) : T:=.node 4 0 0 0 0 0 0 [t,u]
theorem L_altT (t u : T) (w : List Nat) : L (altT t u) w↔L t w ∨ L u w:=by
  simp only [altT,L,altL]
  simp only [show ¬ (4 : Int)=1 by omega,show ¬ (4 : Int)=2 by omega,show ¬ (4 : Int)=3 by omega,if_true,if_false,or_false]
end Go.Sv
namespace Go.Sv
open Go Go.Proofs
def x28 : XC:=(.seq (.ops 3 [ (0,⟨some 3,none,.box (.t 0)⟩),(1,⟨some 4,none,.box (.t 1)⟩),(2,⟨some 6,none,.mv (.k (.d (.val (.bool false))))⟩)] (some [2,3,4])) (.seq (.ops 6 [ (0,⟨some 16,none,.load (some 8) (.t 3)⟩),(1,⟨some 17,none,.load (some 8) (.t 4)⟩),(2,⟨some 18,none,.mkrow [(.int .i64 0),(.int .u64 0),(.int .u64 0),(.int .u64 0),(.int .u64 0),(.int .i64 0),(.int .i64 0),(.slice none 0 0)] 2 8 [(0,8,(.t 16)),(8,8,(.t 17))]⟩),(3,⟨some 19,none,.build [(.int .i64 0),(.int .u64 0),(.int .u64 0),(.int .u64 0),(.int .u64 0),(.int .i64 0),(.int .i64 0),(.slice none 0 0)] [(0,1,(.k (.d (.val (.int .i64 4))))),(7,1,(.t 18))]⟩),(4,⟨some 7,none,.alloc [(.int .i64 0),(.int .u64 0),(.int .u64 0),(.int .u64 0),(.int .u64 0),(.int .i64 0),(.int .i64 0),(.slice none 0 0)]⟩),(5,⟨none,none,.store 8 (.t 7) (.t 19)⟩)] (some [2,3,4,7])) (.seq (.seq (.ops 12 [ (0,⟨some 20,none,.call 75 [] none false⟩),(1,⟨some 21,none,.un .not (.t 20)⟩),(2,⟨some 22,none,.mv (.t 21)⟩),(3,⟨some 23,(some (22,false)),.load (some 8) (.t 7)⟩),(4,⟨some 24,(some (22,false)),.call 76 [(.t 23),(.k (.d (.val (.string ⟨#[]⟩))))] none false⟩),(5,⟨some 25,(some (22,false)),.un .not (.t 24)⟩),(6,⟨some 26,none,.pick (.t 22) (.k (.d (.val (.bool true)))) (.t 25)⟩),(7,⟨some 27,none,.mv (.t 26)⟩),(8,⟨some 28,(some (27,false)),.load (some 8) (.t 7)⟩),(9,⟨some 29,(some (27,false)),.call 32 [(.t 28)] none false⟩),(10,⟨some 30,(some (27,false)),.un .not (.t 29)⟩),(11,⟨some 31,none,.pick (.t 27) (.k (.d (.val (.bool true)))) (.t 30)⟩)] (some [2,3,4,7,31])) (.cond (.t 31) (.seq (.ops 2 [ (0,⟨some 32,none,.call 75 [] none false⟩),(1,⟨some 6,none,.mv (.t 32)⟩)] (some [6])) .ret) .skip)) (.seq (.ops 9 [ (0,⟨some 34,none,.load (some 8) (.t 3)⟩),(1,⟨some 35,none,.mv (.t 2)⟩),(2,⟨some 36,none,.call 77 [(.t 34),(.t 35)] none false⟩),(3,⟨some 33,none,.mv (.t 36)⟩),(4,⟨some 37,none,.ext (.t 33) 0⟩),(5,⟨some 38,none,.ext (.t 33) 1⟩),(6,⟨some 8,none,.alloc [(.int .i64 0),(.int .u64 0),(.int .u64 0),(.int .u64 0),(.int .u64 0),(.int .i64 0),(.int .i64 0),(.slice none 0 0)]⟩),(7,⟨none,none,.store 8 (.t 8) (.t 37)⟩),(8,⟨some 9,none,.mv (.t 38)⟩)] (some [2,3,4,7,8,9])) (.seq (.ops 10 [ (0,⟨some 40,none,.load (some 8) (.t 3)⟩),(1,⟨some 41,none,.call 40 [(.t 40)] none false⟩),(2,⟨some 42,none,.mv (.t 2)⟩),(3,⟨some 43,none,.call 77 [(.t 41),(.t 42)] none false⟩),(4,⟨some 39,none,.mv (.t 43)⟩),(5,⟨some 44,none,.ext (.t 39) 0⟩),(6,⟨some 45,none,.ext (.t 39) 1⟩),(7,⟨some 10,none,.alloc [(.int .i64 0),(.int .u64 0),(.int .u64 0),(.int .u64 0),(.int .u64 0),(.int .i64 0),(.int .i64 0),(.slice none 0 0)]⟩),(8,⟨none,none,.store 8 (.t 10) (.t 44)⟩),(9,⟨some 11,none,.mv (.t 45)⟩)] (some [2,4,7,8,9,10,11])) (.seq (.ops 9 [ (0,⟨some 47,none,.load (some 8) (.t 7)⟩),(1,⟨some 48,none,.mv (.t 2)⟩),(2,⟨some 49,none,.call 77 [(.t 47),(.t 48)] none false⟩),(3,⟨some 46,none,.mv (.t 49)⟩),(4,⟨some 50,none,.ext (.t 46) 0⟩),(5,⟨some 51,none,.ext (.t 46) 1⟩),(6,⟨some 12,none,.alloc [(.int .i64 0),(.int .u64 0),(.int .u64 0),(.int .u64 0),(.int .u64 0),(.int .i64 0),(.int .i64 0),(.slice none 0 0)]⟩),(7,⟨none,none,.store 8 (.t 12) (.t 50)⟩),(8,⟨some 13,none,.mv (.t 51)⟩)] (some [2,4,8,9,10,11,12,13])) (.seq (.ops 9 [ (0,⟨some 53,none,.load (some 8) (.t 4)⟩),(1,⟨some 54,none,.mv (.t 2)⟩),(2,⟨some 55,none,.call 77 [(.t 53),(.t 54)] none false⟩),(3,⟨some 52,none,.mv (.t 55)⟩),(4,⟨some 56,none,.ext (.t 52) 0⟩),(5,⟨some 57,none,.ext (.t 52) 1⟩),(6,⟨some 14,none,.alloc [(.int .i64 0),(.int .u64 0),(.int .u64 0),(.int .u64 0),(.int .u64 0),(.int .i64 0),(.int .i64 0),(.slice none 0 0)]⟩),(7,⟨none,none,.store 8 (.t 14) (.t 56)⟩),(8,⟨some 15,none,.mv (.t 57)⟩)] (some [8,9,10,11,12,13,14,15])) (.seq (.seq (.ops 20 [ (0,⟨some 58,none,.mv (.t 9)⟩),(1,⟨some 59,none,.arith .neq (.t 58) (.k (.d (.val (.int .i64 0))))⟩),(2,⟨some 60,none,.mv (.t 59)⟩),(3,⟨some 61,(some (60,false)),.mv (.t 11)⟩),(4,⟨some 62,(some (60,false)),.arith .neq (.t 61) (.k (.d (.val (.int .i64 0))))⟩),(5,⟨some 63,none,.pick (.t 60) (.k (.d (.val (.bool true)))) (.t 62)⟩),(6,⟨some 64,none,.mv (.t 63)⟩),(7,⟨some 65,(some (64,false)),.mv (.t 13)⟩),(8,⟨some 66,(some (64,false)),.arith .neq (.t 65) (.k (.d (.val (.int .i64 0))))⟩),(9,⟨some 67,none,.pick (.t 64) (.k (.d (.val (.bool true)))) (.t 66)⟩),(10,⟨some 68,none,.mv (.t 67)⟩),(11,⟨some 69,(some (68,false)),.mv (.t 15)⟩),(12,⟨some 70,(some (68,false)),.arith .neq (.t 69) (.k (.d (.val (.int .i64 0))))⟩),(13,⟨some 71,none,.pick (.t 68) (.k (.d (.val (.bool true)))) (.t 70)⟩),(14,⟨some 72,none,.mv (.t 71)⟩),(15,⟨some 73,(some (72,false)),.load (some 8) (.t 8)⟩),(16,⟨some 74,(some (72,false)),.load (some 8) (.t 10)⟩),(17,⟨some 75,(some (72,false)),.call 47 [(.t 73),(.t 74)] none false⟩),(18,⟨some 76,(some (72,false)),.un .not (.t 75)⟩),(19,⟨some 77,none,.pick (.t 72) (.k (.d (.val (.bool true)))) (.t 76)⟩)] (some [8,12,14,77])) (.cond (.t 77) (.seq (.ops 1 [ (0,⟨some 6,none,.mv (.k (.d (.val (.bool false))))⟩)] (some [6])) .ret) .skip)) (.seq (.ops 31 [ (0,⟨some 78,none,.load (some 8) (.t 12)⟩),(1,⟨some 79,none,.call 51 [(.t 78)] none false⟩),(2,⟨some 80,none,.load (some 8) (.t 8)⟩),(3,⟨some 81,none,.call 51 [(.t 80)] none false⟩),(4,⟨some 82,none,.mv (.t 81)⟩),(5,⟨some 83,(some (82,true)),.load (some 8) (.t 14)⟩),(6,⟨some 84,(some (82,true)),.call 51 [(.t 83)] none false⟩),(7,⟨some 85,none,.pick (.t 82) (.t 84) (.k (.d (.val (.bool false))))⟩),(8,⟨some 86,none,.beq false (.t 79) (.t 85)⟩),(9,⟨some 87,none,.mv (.t 86)⟩),(10,⟨some 88,(some (87,true)),.load (some 8) (.t 12)⟩),(11,⟨some 89,(some (87,true)),.call 72 [(.t 88)] none false⟩),(12,⟨some 90,(some (87,true)),.load (some 8) (.t 8)⟩),(13,⟨some 91,(some (87,true)),.call 72 [(.t 90)] none false⟩),(14,⟨some 92,(some (87,true)),.mv (.t 91)⟩),(15,⟨some 93,(some (92,false)),.load (some 8) (.t 14)⟩),(16,⟨some 94,(some (92,false)),.call 72 [(.t 93)] none false⟩),(17,⟨some 95,(some (87,true)),.pick (.t 92) (.k (.d (.val (.bool true)))) (.t 94)⟩),(18,⟨some 96,(some (87,true)),.beq false (.t 89) (.t 95)⟩),(19,⟨some 97,none,.pick (.t 87) (.t 96) (.k (.d (.val (.bool false))))⟩),(20,⟨some 98,none,.mv (.t 97)⟩),(21,⟨some 99,(some (98,true)),.load (some 8) (.t 12)⟩),(22,⟨some 100,(some (98,true)),.call 50 [(.t 99)] none false⟩),(23,⟨some 101,(some (98,true)),.load (some 8) (.t 8)⟩),(24,⟨some 102,(some (98,true)),.load (some 8) (.t 14)⟩),(25,⟨some 103,(some (98,true)),.mkrow [(.int .i64 0),(.int .u64 0),(.int .u64 0),(.int .u64 0),(.int .u64 0),(.int .i64 0),(.int .i64 0),(.slice none 0 0)] 2 8 [(0,8,(.t 101)),(8,8,(.t 102))]⟩),(26,⟨some 104,(some (98,true)),.build [(.int .i64 0),(.int .u64 0),(.int .u64 0),(.int .u64 0),(.int .u64 0),(.int .i64 0),(.int .i64 0),(.slice none 0 0)] [(0,1,(.k (.d (.val (.int .i64 4))))),(7,1,(.t 103))]⟩),(27,⟨some 105,(some (98,true)),.call 50 [(.t 104)] none false⟩),(28,⟨some 106,(some (98,true)),.eqAgg 4 false (.t 100) (.t 105)⟩),(29,⟨some 107,none,.pick (.t 98) (.t 106) (.k (.d (.val (.bool false))))⟩),(30,⟨some 6,none,.mv (.t 107)⟩)] (some [6])) .ret)))))))))
def md28 : FuncId→Option Nat × Bool
  | _=>(none,false)
def od28 : Nat→List (List Nat) × List Nat × Option (List Nat)
  | 0=>([],[],some [2,3,4])
  | 1=>([],[],some [2,3,4,7])
  | 2=>([],[],some [2,3,4,7,31])
  | 3=>([],[],some [6])
  | 4=>([],[],some [2,3,4,7,8,9])
  | 5=>([],[],some [2,4,7,8,9,10,11])
  | 6=>([],[],some [2,4,8,9,10,11,12,13])
  | 7=>([],[],some [8,9,10,11,12,13,14,15])
  | 8=>([],[],some [8,12,14,77])
  | 9=>([],[],some [6])
  | 10=>([[],[0],[],[0,1,2],[0,1,2,3],[0,1,2,3,4],[0,1,2,3,4,5],[0,1,2,3,4,5,6],[0,1,2,3,4,5,6,7],[0,1,2,3,4,5,6,7,8],[0,1,2,3,4,5,6,7,8,9],[0,1,2,3,4,5,6,7,8,9,10],[0,1,2,3,4,5,6,7,8,9],[0,1,2,3,4,5,6,7,8,9,10,11,12],[0,1,2,3,4,5,6,7,8,9,10,11,12,13],[0,1,2,3,4,5,6,7,8,9,10,11,12,13,14],[0,1,2,3,4,5,6,7,8,9,10,11,12,13,14,15],[0,1,2,3,4,5,6,7,8,9,10,11,12,13,14,15,16],[0,1,2,3,4,5,6,7,8,9,10,11,12,13,14,15,16,17],[0,1,2,3,4,5,6,7,8,9,10,11,12,13,14,15,16,17,18],[0,1,2,3,4,5,6,7,8,9,10,11,12,13,14,15,16,17,18,19],[0,1,2,3,4,5,6,7,8,9,10,11,12,13,14,15,16,17,18,19,20],[0,1,2,3,4,5,6,7,8,9,10,11,12,13,14,15,16,17,18,19,20,21],[0,1,2,3,4,5,6,7,8,9,10,11,12,13,14,15,16,17,18,19,20],[0,1,2,3,4,5,6,7,8,9,10,11,12,13,14,15,16,17,18,19,20],[0,1,2,3,4,5,6,7,8,9,10,11,12,13,14,15,16,17,18,19,20,23,24],[0,1,2,3,4,5,6,7,8,9,10,11,12,13,14,15,16,17,18,19,20,23,24,25],[0,1,2,3,4,5,6,7,8,9,10,11,12,13,14,15,16,17,18,19,20,21,22,23,24,25,26],[0,1,2,3,4,5,6,7,8,9,10,11,12,13,14,15,16,17,18,19,20,21,22,23,24,25,26,27],[0,1,2,3,4,5,6,7,8,9,10,11,12,13,14,15,16,17,18,19,20,21,22,23,24,25,26,27,28],[0,1,2,3,4,5,6,7,8,9,10,11,12,13,14,15,16,17,18,19,20,21,22,23,24,25,26,27,28,29]],[0,1,2,3,4,5,6,7,8,9,10,11,12,13,14,15,16,17,18,19,20,21,22,23,24,25,26,27,28,29,30],some [6])
  | _=>([],[],none)
theorem b28 {ags : List AV} {row : Option (List DV)} {r : AV} {row' nw : Option (List DV)} (hal : ags.length≤108) (hrow : row'.isSome=true→row.isSome=true) (h : xwp Try.prog x28 (retK [.tmp 6] row.isSome r row' nw) (St.init ags row)) : Good Try.prog 28 ags row r row' nw :=
  good_of_body' (md:=md28) (od:=od28) Try.f28 (by kernel_rfl) (by kernel_rfl) (by kernel_rfl) (by kernel_rfl) (by kernel_rfl) hal hrow h

theorem conv2a {C : Heap} {id : Nat} {kk : Int} {t u : T} (hC : C id=some ((encL [t,u]).map AV.d)) : convAs C (fun _=>false) [.agg [.i kk,.d (.val (.int .u64 0)),.d (.val (.int .u64 0)),.d (.val (.int .u64 0)),.d (.val (.int .u64 0)),.i 0,.i 0,.slL id 0 2 8]]=some ([nodeA (.node kk 0 0 0 0 0 0 [t,u])],[id]):=by
  have h:=conv_rowN (C:=C) (ex:=fun _=>false) (id:=id) (m:=2) (L:=[t,u]) hC rfl rfl
  have h2 : ∀ x : Value,convC C (fun _=>false) 9 (.d (.val x))=some ((DV.val x).norm,[]):=fun x=>rfl
  simp only [convAs,convA,mapO,h2,h,Option.map_some,Option.bind_some]
  rfl
theorem conv2b {C : Heap} {id : Nat} {kk : Int} {t u : T} {y : DV} (hy : y.nrm=true) (hC : C id=some ((encL [t,u]).map AV.d)) : convAs C (fun _=>false) [.agg [.i kk,.d (.val (.int .u64 0)),.d (.val (.int .u64 0)),.d (.val (.int .u64 0)),.d (.val (.int .u64 0)),.i 0,.i 0,.slL id 0 2 8],.d y]=some ([nodeA (.node kk 0 0 0 0 0 0 [t,u]),.d y],[id]):=by
  have h:=conv_rowN (C:=C) (ex:=fun _=>false) (id:=id) (m:=2) (L:=[t,u]) hC rfl rfl
  have h2 : ∀ x : Value,convC C (fun _=>false) 9 (.d (.val x))=some ((DV.val x).norm,[]):=fun x=>rfl
  have h3 : convC C (fun _=>false) 9 (.d y)=some (y,[]):=by simp [convC,DV.nrm_norm hy]
  simp only [convAs,convA,mapO,h2,h,h3,Option.map_some,Option.bind_some]
  rfl
set_option maxRecDepth 100000
set_option maxHeartbeats 4000000
attribute [local irreducible] W E R KP thenK blockK retK Good xwp aRun
theorem firstW_cg {t u : T} (h : ∀ w,L t w↔L u w) : firstW t=firstW u:=by
  have : L t=L u:=funext fun w=>propext (h w)
  unfold firstW
  rw [this]
theorem okT_two {t u : T} (h : okT t) (h2 : okT u) : okT (altT t u):=okT_mk (by simp [plainT,isZero]) ⟨h,h2,trivial⟩
theorem law28 (t u : T) (b : Int) (ht : inT t) (hu : inT u) (hb : 0≤b∧b < 256) : Good Try.prog 28 [nodeA t,nodeA u,.d (.val (.int .u8 b))] none (.b true) none none:=by
  obtain ⟨x,rfl⟩:=Int.eq_ofNat_of_zero_le hb.1
  have hx : x < 256:=by omega
  clear hb
  have haw:=awake75_good
  have z : inW 0:=by unfold inW;omega
  have o : okW 0:=by unfold okW;omega
  have k4' : inW 4:=by unfold inW;omega
  have hina : inT (altT t u):=by simp only [altT,inT,inL,z,o,k4',ht,hu,and_self]
  clear z o k4'
  have h76:=few76_good ⟨#[]⟩ (by show 0≤9223372036854775807;omega) (altT t u)
  by_cases hf : few12 ⟨#[]⟩ (altT t u)=true
  case neg =>
    have hf : few12 ⟨#[]⟩ (altT t u)=false:=by simpa using hf
    rw [hf] at h76
    clear ht hu hina hf
    obtain ⟨k,a,b,c,d,mn,mx,subs⟩:=t
    obtain ⟨k2,a2,b2,c2,d2,mn2,mx2,subs2⟩:=u
    have e0 : nodeA (T.node k a b c d mn mx subs)=.agg [.i k,.d (.val (.int .u64 a)),.d (.val (.int .u64 b)),.d (.val (.int .u64 c)),.d (.val (.int .u64 d)),.i mn,.i mx,.d (.sl (encL subs) subs.length)]:=rfl
    have e1 : nodeA (T.node k2 a2 b2 c2 d2 mn2 mx2 subs2)=.agg [.i k2,.d (.val (.int .u64 a2)),.d (.val (.int .u64 b2)),.d (.val (.int .u64 c2)),.d (.val (.int .u64 d2)),.i mn2,.i mx2,.d (.sl (encL subs2) subs2.length)]:=rfl
    rw [e0,e1]
    refine b28 (by simp) (by simp) (w_init ?_)
    unfold x28
    repeat' (first|(apply r_mvV;rfl)|(apply r_ldL (v:=.agg [.i k,.d (.val (.int .u64 a)),.d (.val (.int .u64 b)),.d (.val (.int .u64 c)),.d (.val (.int .u64 d)),.i mn,.i mx,.d (.sl (encL subs) subs.length)]);rfl;rfl;rfl)|(apply r_ldL (v:=.agg [.i k2,.d (.val (.int .u64 a2)),.d (.val (.int .u64 b2)),.d (.val (.int .u64 c2)),.d (.val (.int .u64 d2)),.i mn2,.i mx2,.d (.sl (encL subs2) subs2.length)]);rfl;rfl;rfl)|(apply r_ldL (v:=.agg [.i 4,.d (.val (.int .u64 0)),.d (.val (.int .u64 0)),.d (.val (.int .u64 0)),.d (.val (.int .u64 0)),.i 0,.i 0,.slL 6 0 2 8]);rfl;rfl;rfl)|(apply r_mkN2 (t:=(T.node k a b c d mn mx subs)) (u:=(T.node k2 a2 b2 c2 d2 mn2 mx2 subs2));rfl;rfl;((conv=>lhs;simp only [Nat.reduceAdd])<;>rfl))|(apply r_p (v:=.agg [.i 4,.d (.val (.int .u64 0)),.d (.val (.int .u64 0)),.d (.val (.int .u64 0)),.d (.val (.int .u64 0)),.i 0,.i 0,.slL 6 0 2 8]);rfl)|(apply r_callA (f:=75) (ags:=[]);rfl;rfl;exact haw)|(apply r_call (f:=76) (bs:=[nodeA (altT (T.node k a b c d mn mx subs) (T.node k2 a2 b2 c2 d2 mn2 mx2 subs2)),.d (.val (.string ⟨#[]⟩))]) (us:=[6]);rfl;exact conv2b rfl rfl;exact h76;rfl)|(apply r_not;rfl;rfl)|(apply r_pickT;rfl)|(apply r_pickF;rfl)|(apply r_gT;rfl)|(apply r_gF';rfl;rfl)|(apply r_alloc;((conv=>lhs;simp only [Nat.reduceAdd])<;>rfl);rfl)|(apply r_box;((conv=>lhs;simp only [Nat.reduceAdd])<;>rfl);rfl;rfl;rfl)|(apply r_stL;rfl;rfl;rfl;rfl;(first|rfl|(simp only [z_nil,z_add]<;>rfl));rfl;rfl)|(apply r_nilK)|(apply k_V;rfl)|(apply k_PL;rfl)|(apply k_nil)|(apply e_ret (vs:=[.d (.val _)]);rfl)|(apply w_seq)|(apply w_ops;((conv=>lhs;simp only [Nat.reduceAdd])<;>rfl))|(apply w_condT;rfl)|(apply e_thenN)|(apply e_thenR)|(apply w_ret))
    exact retB rfl
  obtain ⟨hc,_⟩:=few12_of hf
  rw [hf] at h76
  have h32:=right8_good (altT t u) (by omega)
  by_cases hr : rightT (altT t u)=true
  case neg =>
    have hr : rightT (altT t u)=false:=by simpa using hr
    rw [hr] at h32
    clear ht hu hina hf hr hc
    obtain ⟨k,a,b,c,d,mn,mx,subs⟩:=t
    obtain ⟨k2,a2,b2,c2,d2,mn2,mx2,subs2⟩:=u
    have e0 : nodeA (T.node k a b c d mn mx subs)=.agg [.i k,.d (.val (.int .u64 a)),.d (.val (.int .u64 b)),.d (.val (.int .u64 c)),.d (.val (.int .u64 d)),.i mn,.i mx,.d (.sl (encL subs) subs.length)]:=rfl
    have e1 : nodeA (T.node k2 a2 b2 c2 d2 mn2 mx2 subs2)=.agg [.i k2,.d (.val (.int .u64 a2)),.d (.val (.int .u64 b2)),.d (.val (.int .u64 c2)),.d (.val (.int .u64 d2)),.i mn2,.i mx2,.d (.sl (encL subs2) subs2.length)]:=rfl
    rw [e0,e1]
    refine b28 (by simp) (by simp) (w_init ?_)
    unfold x28
    repeat' (first|(apply r_mvV;rfl)|(apply r_ldL (v:=.agg [.i k,.d (.val (.int .u64 a)),.d (.val (.int .u64 b)),.d (.val (.int .u64 c)),.d (.val (.int .u64 d)),.i mn,.i mx,.d (.sl (encL subs) subs.length)]);rfl;rfl;rfl)|(apply r_ldL (v:=.agg [.i k2,.d (.val (.int .u64 a2)),.d (.val (.int .u64 b2)),.d (.val (.int .u64 c2)),.d (.val (.int .u64 d2)),.i mn2,.i mx2,.d (.sl (encL subs2) subs2.length)]);rfl;rfl;rfl)|(apply r_ldL (v:=.agg [.i 4,.d (.val (.int .u64 0)),.d (.val (.int .u64 0)),.d (.val (.int .u64 0)),.d (.val (.int .u64 0)),.i 0,.i 0,.slL 6 0 2 8]);rfl;rfl;rfl)|(apply r_mkN2 (t:=(T.node k a b c d mn mx subs)) (u:=(T.node k2 a2 b2 c2 d2 mn2 mx2 subs2));rfl;rfl;((conv=>lhs;simp only [Nat.reduceAdd])<;>rfl))|(apply r_p (v:=.agg [.i 4,.d (.val (.int .u64 0)),.d (.val (.int .u64 0)),.d (.val (.int .u64 0)),.d (.val (.int .u64 0)),.i 0,.i 0,.slL 6 0 2 8]);rfl)|(apply r_callA (f:=75) (ags:=[]);rfl;rfl;exact haw)|(apply r_call (f:=76) (bs:=[nodeA (altT (T.node k a b c d mn mx subs) (T.node k2 a2 b2 c2 d2 mn2 mx2 subs2)),.d (.val (.string ⟨#[]⟩))]) (us:=[6]);rfl;exact conv2b rfl rfl;exact h76;rfl)|(apply r_call (f:=32) (bs:=[nodeA (altT (T.node k a b c d mn mx subs) (T.node k2 a2 b2 c2 d2 mn2 mx2 subs2))]) (us:=[6]);rfl;exact conv2a rfl;exact h32;rfl)|(apply r_not;rfl;rfl)|(apply r_pickF;rfl)|(apply r_gT;rfl)|(apply r_alloc;((conv=>lhs;simp only [Nat.reduceAdd])<;>rfl);rfl)|(apply r_box;((conv=>lhs;simp only [Nat.reduceAdd])<;>rfl);rfl;rfl;rfl)|(apply r_stL;rfl;rfl;rfl;rfl;(first|rfl|(simp only [z_nil,z_add]<;>rfl));rfl;rfl)|(apply r_nilK)|(apply k_V;rfl)|(apply k_PL;rfl)|(apply k_nil)|(apply e_ret (vs:=[.d (.val _)]);rfl)|(apply w_seq)|(apply w_ops;((conv=>lhs;simp only [Nat.reduceAdd])<;>rfl))|(apply w_condT;rfl)|(apply e_thenN)|(apply e_thenR)|(apply w_ret))
    exact retB rfl
  rw [hr] at h32
  have hrt : rightT t=true:=right_sub hr 0 (by simp)
  have hru : rightT u=true:=right_sub hr 1 (by simp)
  have hft : fitsT t 12=true:=by rw [← right_fits];exact hrt
  have hfu : fitsT u 12=true:=by rw [← right_fits];exact hru
  have hfa : fitsT (altT t u) 12=true:=by rw [← right_fits];exact hr
  have hokt : okT t:=ok_of_right ht hrt
  have hoku : okT u:=ok_of_right hu hru
  have hoka : okT (altT t u):=ok_of_right hina hr
  have hca : (altT t u).cnt=1 + (t.cnt + u.cnt):=by simp [altT,T.cnt,cntL]
  have hos:=simT_ok t hokt
  have hfs:=simT_fits hokt hft
  have hcs:=simT_cnt t hokt
  have hcu:=simT_cnt u hoku
  have hcz:=simT_cnt _ hoka
  have g1:=By77_good hx t (by omega) (fun _=>hokt)
  have h40:=simple40_good 4000 t (by omega) (by omega) hokt
  have g2:=By77_good hx (simT t) (by omega) (fun _=>hos)
  have g3:=By77_good hx (altT t u) (by omega) (fun _=>hoka)
  have g4:=By77_good hx u (by omega) (fun _=>hoku)
  rw [show sE t=0 by simp [sE,hft],show dbN x t=byT x (simT t) by simp [dbN,hft]] at g1
  rw [show sE (simT t)=0 by simp [sE,hfs],show dbN x (simT t)=byT x (simT t) by simp [dbN,hfs,simT_again t hokt]] at g2
  rw [show sE (altT t u)=0 by simp [sE,hfa],show dbN x (altT t u)=byT x (simT (altT t u)) by simp [dbN,hfa]] at g3
  rw [show sE u=0 by simp [sE,hfu],show dbN x u=byT x (simT u) by simp [dbN,hfu]] at g4
  have hdt:=DOK_sim hokt (by omega)
  have hdu:=DOK_sim hoku (by omega)
  have hda:=DOK_sim hoka (by omega)
  obtain ⟨p1,_,p3,p4⟩:=byT_ok x (simT t) hdt.1 hdt.2.1
  obtain ⟨q1,_,q3,q4⟩:=byT_ok x (simT u) hdu.1 hdu.2.1
  obtain ⟨r1,_,r3,r4⟩:=byT_ok x (simT (altT t u)) hda.1 hda.2.1
  have s1:=sq_mono (show (simT t).cnt≤200 by omega)
  have s2:=sq_mono (show (simT u).cnt≤200 by omega)
  have s3:=sq_mono (show (simT (altT t u)).cnt≤200 by omega)
  have hL : ∀ w,L (byT x (simT (altT t u))) w↔L (byT x (simT t)) w ∨ L (byT x (simT u)) w:=fun w=>by
    rw [r3,simT_L _ hoka,L_altT,p3,q3,simT_L _ hokt,simT_L _ hoku]
  have h47:=same47g_good 100000000 (byT x (simT t)) (byT x (simT t)) (by omega) (Nat.le_refl _)
  rw [sameT_self] at h47
  clear ht hu hina hf hr hrt hru hft hfu hfa hokt hoku hoka hca hos hfs hcs hcu hcz hc hdt hdu hda p3 q3 r3
  have hcx : (byT x (simT t)).cnt≤40000:=by omega
  have hcw : (byT x (simT u)).cnt≤40000:=by omega
  have hcz : (byT x (simT (altT t u))).cnt≤40000:=by omega
  clear p4 q4 r4 s1 s2 s3
  generalize byT x (simT (altT t u))=dz at g3 r1 hL hcz
  generalize byT x (simT t)=dx at g1 g2 p1 hL hcx h47
  generalize byT x (simT u)=dw at g4 q1 hL hcw
  generalize simT t=st at h40 g2
  have n1:=none51_good 1000000 dx (by omega) (by omega) p1
  have n2:=none51_good 1000000 dw (by omega) (by omega) q1
  have n3:=none51_good 1000000 dz (by omega) (by omega) r1
  have m1:=null72_good dx (by omega) p1
  have m2:=null72_good dw (by omega) q1
  have m3:=null72_good dz (by omega) r1
  have o2:=okT_two p1 q1
  have hcl : (altT dx dw).cnt=1 + (dx.cnt + dw.cnt):=by simp [altT,T.cnt,cntL]
  have f3:=first50_good 300000 dz (by omega) (by omega) r1
  have f4:=first50_good 300000 (altT dx dw) (by omega) (by omega) o2
  have en : nnT dz=(nnT dx && nnT dw):=by
    rw [Bool.eq_iff_iff,Bool.and_eq_true,nnT_L _ r1,nnT_L _ p1,nnT_L _ q1]
    constructor
    · exact fun h=>⟨fun w hw=>h w ((hL w).2 (.inl hw)),fun w hw=>h w ((hL w).2 (.inr hw))⟩
    · rintro ⟨h1,h2⟩ w hw
      rcases (hL w).1 hw with h | h
      · exact h1 w h
      · exact h2 w h
  have em : nullS dz=(nullS dx || nullS dw):=by
    rw [nullS_nl r1,nullS_nl p1,nullS_nl q1,Bool.eq_iff_iff,Bool.or_eq_true,nlT_L _ r1,nlT_L _ p1,nlT_L _ q1]
    exact hL []
  have ef : firstW dz=firstW (altT dx dw):=firstW_cg fun w=>by rw [hL,L_altT]
  rw [en] at n3
  rw [em] at m3
  rw [ef] at f3
  obtain ⟨w0,w1,w2,w3,hws,_⟩:=words4 (firstW_ok (altT dx dw)).1
  rw [hws] at f3 f4
  have f3 : Good Try.prog 50 [nodeA dz] none (.agg [.d (.val (.int .u64 w0)),.d (.val (.int .u64 w1)),.d (.val (.int .u64 w2)),.d (.val (.int .u64 w3))]) none none:=f3
  have f4 : Good Try.prog 50 [nodeA (altT dx dw)] none (.agg [.d (.val (.int .u64 w0)),.d (.val (.int .u64 w1)),.d (.val (.int .u64 w2)),.d (.val (.int .u64 w3))]) none none:=f4
  clear p1 q1 r1 o2 hcl en em ef hws hL hcx hcw hcz
  generalize nnT dx=qx at n1 n3
  generalize nnT dw=qw at n2 n3
  generalize nullS dx=vx at m1 m3
  generalize nullS dw=vw at m2 m3
  obtain ⟨k,a,b,c,d,mn,mx,subs⟩:=t
  obtain ⟨k2,a2,b2,c2,d2,mn2,mx2,subs2⟩:=u
  obtain ⟨k3,a3,b3,c3,d3,mn3,mx3,subs3⟩:=st
  obtain ⟨k4,a4,b4,c4,d4,mn4,mx4,subs4⟩:=dx
  obtain ⟨k5,a5,b5,c5,d5,mn5,mx5,subs5⟩:=dz
  obtain ⟨k6,a6,b6,c6,d6,mn6,mx6,subs6⟩:=dw
  have e0 : nodeA (T.node k a b c d mn mx subs)=.agg [.i k,.d (.val (.int .u64 a)),.d (.val (.int .u64 b)),.d (.val (.int .u64 c)),.d (.val (.int .u64 d)),.i mn,.i mx,.d (.sl (encL subs) subs.length)]:=rfl
  have e1 : nodeA (T.node k2 a2 b2 c2 d2 mn2 mx2 subs2)=.agg [.i k2,.d (.val (.int .u64 a2)),.d (.val (.int .u64 b2)),.d (.val (.int .u64 c2)),.d (.val (.int .u64 d2)),.i mn2,.i mx2,.d (.sl (encL subs2) subs2.length)]:=rfl
  have e3 : nodeA (T.node k3 a3 b3 c3 d3 mn3 mx3 subs3)=.agg [.i k3,.d (.val (.int .u64 a3)),.d (.val (.int .u64 b3)),.d (.val (.int .u64 c3)),.d (.val (.int .u64 d3)),.i mn3,.i mx3,.d (.sl (encL subs3) subs3.length)]:=rfl
  have e4 : nodeA (T.node k4 a4 b4 c4 d4 mn4 mx4 subs4)=.agg [.i k4,.d (.val (.int .u64 a4)),.d (.val (.int .u64 b4)),.d (.val (.int .u64 c4)),.d (.val (.int .u64 d4)),.i mn4,.i mx4,.d (.sl (encL subs4) subs4.length)]:=rfl
  have e5 : nodeA (T.node k5 a5 b5 c5 d5 mn5 mx5 subs5)=.agg [.i k5,.d (.val (.int .u64 a5)),.d (.val (.int .u64 b5)),.d (.val (.int .u64 c5)),.d (.val (.int .u64 d5)),.i mn5,.i mx5,.d (.sl (encL subs5) subs5.length)]:=rfl
  have e6 : nodeA (T.node k6 a6 b6 c6 d6 mn6 mx6 subs6)=.agg [.i k6,.d (.val (.int .u64 a6)),.d (.val (.int .u64 b6)),.d (.val (.int .u64 c6)),.d (.val (.int .u64 d6)),.i mn6,.i mx6,.d (.sl (encL subs6) subs6.length)]:=rfl
  rw [e0] at g1 h40
  rw [e1] at g4
  rw [e3] at h40 g2
  rw [e4] at g1 g2 n1 m1 h47
  rw [e5] at g3 n3 m3 f3
  rw [e6] at g4 n2 m2
  rw [e0,e1]
  cases qx<;>cases vx
  all_goals
    refine b28 (by simp) (by simp) (w_init ?_)
    unfold x28
    repeat' (first|(apply r_mvV;rfl)|(apply r_mvT;rfl)|(apply r_ldL (v:=.agg [.i 4,.d (.val (.int .u64 0)),.d (.val (.int .u64 0)),.d (.val (.int .u64 0)),.d (.val (.int .u64 0)),.i 0,.i 0,.slL 6 0 2 8]);rfl;rfl;rfl)|(apply r_mkN2 (t:=(T.node k a b c d mn mx subs)) (u:=(T.node k2 a2 b2 c2 d2 mn2 mx2 subs2));rfl;rfl;((conv=>lhs;simp only [Nat.reduceAdd])<;>rfl))|(apply r_p (v:=.agg [.i 4,.d (.val (.int .u64 0)),.d (.val (.int .u64 0)),.d (.val (.int .u64 0)),.d (.val (.int .u64 0)),.i 0,.i 0,.slL 6 0 2 8]);rfl)|(apply r_callA (f:=75) (ags:=[]);rfl;rfl;exact haw)|(apply r_call (f:=76) (bs:=[nodeA (altT (T.node k a b c d mn mx subs) (T.node k2 a2 b2 c2 d2 mn2 mx2 subs2)),.d (.val (.string ⟨#[]⟩))]) (us:=[6]);rfl;exact conv2b rfl rfl;exact h76;rfl)|(apply r_call (f:=32) (bs:=[nodeA (altT (T.node k a b c d mn mx subs) (T.node k2 a2 b2 c2 d2 mn2 mx2 subs2))]) (us:=[6]);rfl;exact conv2a rfl;exact h32;rfl)|(apply r_callA (f:=77) (ags:=[.agg [.i k,.d (.val (.int .u64 a)),.d (.val (.int .u64 b)),.d (.val (.int .u64 c)),.d (.val (.int .u64 d)),.i mn,.i mx,.d (.sl (encL subs) subs.length)],.d (.val (.int .u8 (x : Nat)))]);rfl;rfl;exact g1)|(apply r_callA (f:=40);rfl;rfl;exact h40)|(apply r_callA (f:=77) (ags:=[.agg [.i k3,.d (.val (.int .u64 a3)),.d (.val (.int .u64 b3)),.d (.val (.int .u64 c3)),.d (.val (.int .u64 d3)),.i mn3,.i mx3,.d (.sl (encL subs3) subs3.length)],.d (.val (.int .u8 (x : Nat)))]);rfl;rfl;exact g2)|(apply r_call (f:=77) (bs:=[nodeA (altT (T.node k a b c d mn mx subs) (T.node k2 a2 b2 c2 d2 mn2 mx2 subs2)),.d (.val (.int .u8 (x : Nat)))]) (us:=[6]);rfl;exact conv2b rfl rfl;exact g3;rfl)|(apply r_callA (f:=77) (ags:=[.agg [.i k2,.d (.val (.int .u64 a2)),.d (.val (.int .u64 b2)),.d (.val (.int .u64 c2)),.d (.val (.int .u64 d2)),.i mn2,.i mx2,.d (.sl (encL subs2) subs2.length)],.d (.val (.int .u8 (x : Nat)))]);rfl;rfl;exact g4)|(apply r_callA (f:=47);rfl;rfl;exact h47)|(apply r_callA (f:=51) (ags:=[.agg [.i k4,.d (.val (.int .u64 a4)),.d (.val (.int .u64 b4)),.d (.val (.int .u64 c4)),.d (.val (.int .u64 d4)),.i mn4,.i mx4,.d (.sl (encL subs4) subs4.length)]]);rfl;rfl;exact n1)|(apply r_callA (f:=51) (ags:=[.agg [.i k6,.d (.val (.int .u64 a6)),.d (.val (.int .u64 b6)),.d (.val (.int .u64 c6)),.d (.val (.int .u64 d6)),.i mn6,.i mx6,.d (.sl (encL subs6) subs6.length)]]);rfl;rfl;exact n2)|(apply r_callA (f:=51) (ags:=[.agg [.i k5,.d (.val (.int .u64 a5)),.d (.val (.int .u64 b5)),.d (.val (.int .u64 c5)),.d (.val (.int .u64 d5)),.i mn5,.i mx5,.d (.sl (encL subs5) subs5.length)]]);rfl;rfl;exact n3)|(apply r_callA (f:=72) (ags:=[.agg [.i k4,.d (.val (.int .u64 a4)),.d (.val (.int .u64 b4)),.d (.val (.int .u64 c4)),.d (.val (.int .u64 d4)),.i mn4,.i mx4,.d (.sl (encL subs4) subs4.length)]]);rfl;rfl;exact m1)|(apply r_callA (f:=72) (ags:=[.agg [.i k6,.d (.val (.int .u64 a6)),.d (.val (.int .u64 b6)),.d (.val (.int .u64 c6)),.d (.val (.int .u64 d6)),.i mn6,.i mx6,.d (.sl (encL subs6) subs6.length)]]);rfl;rfl;exact m2)|(apply r_callA (f:=72) (ags:=[.agg [.i k5,.d (.val (.int .u64 a5)),.d (.val (.int .u64 b5)),.d (.val (.int .u64 c5)),.d (.val (.int .u64 d5)),.i mn5,.i mx5,.d (.sl (encL subs5) subs5.length)]]);rfl;rfl;exact m3)|(apply r_beq (r:=true);rfl;rfl;(simp))|(apply r_callA (f:=50) (ags:=[.agg [.i k5,.d (.val (.int .u64 a5)),.d (.val (.int .u64 b5)),.d (.val (.int .u64 c5)),.d (.val (.int .u64 d5)),.i mn5,.i mx5,.d (.sl (encL subs5) subs5.length)]]);rfl;rfl;exact f3)|(apply r_mkN2 (t:=(T.node k4 a4 b4 c4 d4 mn4 mx4 subs4)) (u:=(T.node k6 a6 b6 c6 d6 mn6 mx6 subs6));rfl;rfl;((conv=>lhs;simp only [Nat.reduceAdd])<;>rfl))|(apply r_call (f:=50) (bs:=[nodeA (altT (T.node k4 a4 b4 c4 d4 mn4 mx4 subs4) (T.node k6 a6 b6 c6 d6 mn6 mx6 subs6))]);rfl;exact conv2a rfl;exact f4;rfl)|(apply r_eqX (r:=true);rfl;rfl;(rw [if_neg (by simp)];simp))|(apply r_ldL (v:=.agg [.i k,.d (.val (.int .u64 a)),.d (.val (.int .u64 b)),.d (.val (.int .u64 c)),.d (.val (.int .u64 d)),.i mn,.i mx,.d (.sl (encL subs) subs.length)]);rfl;rfl;rfl)|(apply r_ldL (v:=.agg [.i k2,.d (.val (.int .u64 a2)),.d (.val (.int .u64 b2)),.d (.val (.int .u64 c2)),.d (.val (.int .u64 d2)),.i mn2,.i mx2,.d (.sl (encL subs2) subs2.length)]);rfl;rfl;rfl)|(apply r_ldL (v:=.agg [.i k4,.d (.val (.int .u64 a4)),.d (.val (.int .u64 b4)),.d (.val (.int .u64 c4)),.d (.val (.int .u64 d4)),.i mn4,.i mx4,.d (.sl (encL subs4) subs4.length)]);rfl;rfl;rfl)|(apply r_ldL (v:=.agg [.i k5,.d (.val (.int .u64 a5)),.d (.val (.int .u64 b5)),.d (.val (.int .u64 c5)),.d (.val (.int .u64 d5)),.i mn5,.i mx5,.d (.sl (encL subs5) subs5.length)]);rfl;rfl;rfl)|(apply r_ldL (v:=.agg [.i k6,.d (.val (.int .u64 a6)),.d (.val (.int .u64 b6)),.d (.val (.int .u64 c6)),.d (.val (.int .u64 d6)),.i mn6,.i mx6,.d (.sl (encL subs6) subs6.length)]);rfl;rfl;rfl)|(apply r_neq;rfl;rfl;(first|(apply dT;omega)|(apply dF;omega)|rfl))|(apply r_not;rfl;rfl)|(apply r_pickT;rfl)|(apply r_pickF;rfl)|(apply r_ext;rfl;rfl)|(apply r_gT;rfl)|(apply r_gF';rfl;rfl)|(apply r_alloc;((conv=>lhs;simp only [Nat.reduceAdd])<;>rfl);rfl)|(apply r_box;((conv=>lhs;simp only [Nat.reduceAdd])<;>rfl);rfl;rfl;rfl)|(apply r_stL;rfl;rfl;rfl;rfl;(first|rfl|(simp only [z_nil,z_add]<;>rfl));rfl;rfl)|(apply r_p;rfl)|(apply r_nilK)|(apply k_V;rfl)|(apply k_PL;rfl)|(apply k_nil)|(apply e_ret (vs:=[.d (.val _)]);rfl)|(apply w_seq)|(apply w_ops;((conv=>lhs;simp only [Nat.reduceAdd])<;>rfl))|(apply w_condF;rfl)|(apply e_thenN)|(apply w_ret)|(apply w_skip))
    exact retB rfl
end Go.Sv
