/- A part of the proof of the law ExpandFirst: that it answers true for every input, and that the input reads behind the call as before (no condition). -/
import Derived.Test.YtcnlgmajkclgjaaExpandFirstG4
import Derived.Test.YtcnlgmajkclgjaaRows
import Derived.ProofKit
import Derived.OpenShut
import Derived.WideKeyArr
import Derived.MapKept
import Derived.ChangeMaps4
import Derived.Deep.LoopGhost
import Derived.Test.YtcnlgmajkclgjaaProg
set_option linter.all false
set_option linter.unusedSectionVars false
set_option linter.unusedVariables false
set_option linter.unusedSimpArgs false
namespace Go.Sv
open Go Go.Proofs
set_option maxRecDepth 100000
theorem mul_ev : ∀ c : Nat,c < 21→evF tabC (spP 100) 100 40 169 [.d (.val (.int .u64 1)),.d (.val (.int .u64 (c : Nat)))] none=some (.tup [.d (.val (.int .u64 0)),.d (.val (.int .u64 (c : Nat)))],none,none)
  | 0,_=>by kernel_rfl
  | 1,_=>by kernel_rfl
  | 2,_=>by kernel_rfl
  | 3,_=>by kernel_rfl
  | 4,_=>by kernel_rfl
  | 5,_=>by kernel_rfl
  | 6,_=>by kernel_rfl
  | 7,_=>by kernel_rfl
  | 8,_=>by kernel_rfl
  | 9,_=>by kernel_rfl
  | 10,_=>by kernel_rfl
  | 11,_=>by kernel_rfl
  | 12,_=>by kernel_rfl
  | 13,_=>by kernel_rfl
  | 14,_=>by kernel_rfl
  | 15,_=>by kernel_rfl
  | 16,_=>by kernel_rfl
  | 17,_=>by kernel_rfl
  | 18,_=>by kernel_rfl
  | 19,_=>by kernel_rfl
  | 20,_=>by kernel_rfl
  | c + 21,h=>by omega
theorem mul_good (c : Nat) (h : c < 21) : Good Try.prog 169 [.d (.val (.int .u64 1)),.d (.val (.int .u64 (c : Nat)))] none (.tup [.d (.val (.int .u64 0)),.d (.val (.int .u64 (c : Nat)))]) none none :=
  evF_sound tabC_ok (spP_ok 100) 40 169 _ none _ _ _ (mul_ev c h)
theorem repl_add (a : List AV) (k : Nat) : ∀ m,repl a (m + k)=repl a m++repl a k
  | 0=>by simp [repl]
  | m + 1=>by rw [show m + 1 + k=(m + k) + 1 by omega,repl,repl_add a k m,repl,List.append_assoc]
theorem repl_len (a : List AV) : ∀ m,(repl a m).length=m * a.length
  | 0=>by simp [repl]
  | m + 1=>by rw [repl,List.length_append,repl_len a m,Nat.succ_mul];omega
theorem repl_all {a : List AV} {p : AV→Bool} (h : a.all p=true) : ∀ m,(repl a m).all p=true
  | 0=>rfl
  | m + 1=>by rw [repl,List.all_append,h,repl_all h m];rfl
def zsN : List Value:=[.int .i64 0,.int .u64 0,.int .u64 0,.int .u64 0,.int .u64 0,.int .i64 0,.int .i64 0,.slice none 0 0]
def rowR (e : List AV) (m c : Nat) : List AV:=repl e m++repl (zeroA zsN) (c - m)
theorem rowR_len {e : List AV} (he : e.length=8) {m c : Nat} (h : m≤c) : (rowR e m c).length=c * 8:=by
  rw [rowR,List.length_append,repl_len,repl_len,he,show (zeroA zsN).length=8 from rfl];omega
theorem rowR_take {e : List AV} (he : e.length=8) (m c : Nat) : (rowR e m c).take (m * 8)=repl e m:=by
  rw [rowR,List.take_append_of_le_length (by rw [repl_len,he];omega),List.take_of_length_le (by rw [repl_len,he];omega)]
theorem repl_take {a : List AV} (ha : a.length=8) {k m : Nat} (h : k≤m) : (repl a m).take (k * 8)=repl a k:=by
  obtain ⟨j,rfl⟩:=Nat.exists_eq_add_of_le h
  rw [repl_add,List.take_append_of_le_length (by rw [repl_len,ha];omega),List.take_of_length_le (by rw [repl_len,ha];omega)]
theorem repl_drop {a : List AV} (ha : a.length=8) {k m : Nat} (h : k≤m) : (repl a m).drop (k * 8)=repl a (m - k):=by
  obtain ⟨j,rfl⟩:=Nat.exists_eq_add_of_le h
  rw [repl_add,List.drop_append_of_le_length (by rw [repl_len,ha];omega),List.drop_of_length_le (by rw [repl_len,ha];omega),List.nil_append,Nat.add_sub_cancel_left]
theorem rowR_splice {e : List AV} (he : e.length=8) {m c k : Nat} (h : m + k≤c) : splice (rowR e m c) (m * 8) (repl e k)=rowR e (m + k) c:=by
  rw [splice,rowR_take he,repl_len,he]
  have e1 : (rowR e m c).drop (m * 8 + k * 8)=repl (zeroA zsN) (c - (m + k)):=by
    have e0 : (repl e m).drop (m * 8)=[]:=List.drop_of_length_le (by rw [repl_len,he];omega)
    rw [← List.drop_drop,rowR,List.drop_append_of_le_length (by rw [repl_len,he];omega),e0,List.nil_append]
    rw [repl_drop rfl (by omega),Nat.sub_sub]
  rw [e1,rowR,repl_add]
section
variable {P : Program} {Q : Cont} {fr : Fr} {C : Heap} {Z : Frz} {nx : Nat} {base n d : Nat} {l : List (Nat × XO)} {kp : Option (List Nat)} {x i y s : X}
theorem r_cvU {m : Nat} (hx : x.ev fr=.i (m : Nat)) (hm : m≤1000000) (k : R P l base kp Q nx (fr.put d (.d (.val (.int .u64 (m : Nat))))) C Z) : R P ((n,⟨some d,none,.conv .u64 x⟩) :: l) base kp Q nx fr C Z:=by
  refine r_p ?_ k
  simp only [xp,hx]
  rw [show IntKind.wrap .u64 ((m : Nat) : Int)=(m : Nat) by simp [IntKind.wrap,IntKind.signed,IntKind.bits];omega]
theorem r_cvI {m : Nat} (hx : x.ev fr=.d (.val (.int .u64 (m : Nat)))) (hm : m≤1000000) (k : R P l base kp Q nx (fr.put d (.i (m : Nat))) C Z) : R P ((n,⟨some d,none,.conv .i64 x⟩) :: l) base kp Q nx fr C Z:=by
  refine r_p ?_ k
  simp only [xp,hx]
  rw [wrap_in (by omega)]
theorem r_gtrU {m : Nat} (hx : x.ev fr=.d (.val (.int .u64 (m : Nat)))) (hy : y.ev fr=.d (.val (.int .u64 9223372036854775807))) (hm : m≤1000000) (k : R P l base kp Q nx (fr.put d (.b false)) C Z) : R P ((n,⟨some d,none,.arith .gtr x y⟩) :: l) base kp Q nx fr C Z:=by
  refine r_p ?_ k
  have h : decide (((m : Nat) : Int) > 9223372036854775807)=false:=by simp;omega
  simp only [xp,hx,hy,arith,Option.map_some,if_true,h]
theorem r_mksN {c : X} {id m : Nat} (hl : i.ev fr=.i (m : Nat)) (hc : c.ev fr=.i (m : Nat)) (hid : base + n=id) (hb : m≤1000000) (k : R P l base kp Q nx (fr.put d (.slL id 0 m 8)) (C.put id (repl (zeroA zsN) m)) Z) : R P ((n,⟨some d,none,.mks [.int .i64 0,.int .u64 0,.int .u64 0,.int .u64 0,.int .u64 0,.int .i64 0,.int .i64 0,.slice none 0 0] 80 i c⟩) :: l) base kp Q nx fr C Z:=by
  subst hid
  refine r_n (r:=repl (zeroA zsN) m) ?_ k
  simp only [xn,hl,hc]
  rw [if_pos (by omega)]
  rfl
theorem r_slLlo {b m c : Nat} (hx : x.ev fr=.slL b 0 c 8) (hi : i.ev fr=.i (m : Nat)) (h0 : 0 < m) (h : m < c) (k : R P l base kp Q nx (fr.put d (.slL b (0 + m * 8) (c - m) 8)) C Z) : R P ((n,⟨some d,none,.slS 8 x (some i) none⟩) :: l) base kp Q nx fr C Z:=by
  refine r_p ?_ k
  simp only [xp,hx,hiOf,loOf,hi,intUpto,if_true,Option.bind_some]
  rw [if_pos (by omega)]
  simp only [Int.toNat_natCast,Option.map_some]
  rw [if_neg (by omega),if_neg (by omega)]
theorem r_slLhi {b m c : Nat} (hx : x.ev fr=.slL b 0 c 8) (hi : i.ev fr=.i (m : Nat)) (h : m≤c) (k : R P l base kp Q nx (fr.put d (.slL b 0 m 8)) C Z) : R P ((n,⟨some d,none,.slS 8 x none (some i)⟩) :: l) base kp Q nx fr C Z:=by
  refine r_p ?_ k
  simp only [xp,hx,hiOf,loOf,hi,intUpto,if_true]
  rw [if_pos (by omega)]
  simp only [Int.toNat_natCast,Option.bind_some,Option.map_some,if_true]
theorem r_cpyR {e : List AV} {b m c : Nat} (he : e.length=8) (h1 : e.all AV.one=true) (hd : y.ev fr=.slL b (0 + m * 8) (c - m) 8) (hx : x.ev fr=.slL b 0 m 8) (hr : C b=some (rowR e m c)) (hz : Z b=false) (h : m≤c)
    (k : R P l base kp Q nx (fr.put d (.i (Nat.min m (c - m) : Nat))) (C.put b (rowR e (m + Nat.min m (c - m)) c)) Z) : R P ((n,⟨some d,none,.cpy 8 y x⟩) :: l) base kp Q nx fr C Z:=by
  refine r_w (v:=.i (Nat.min m (c - m) : Nat)) (C':=C.put b (rowR e (m + Nat.min m (c - m)) c)) ?_ k
  have hmin : Nat.min m (c - m)≤m∧Nat.min m (c - m)≤c - m:=⟨Nat.min_le_left _ _,Nat.min_le_right _ _⟩
  have hs : srcOf C 8 (.slL b 0 m 8)=some (repl e m,m):=by
    simp only [srcOf,if_true,hr,Option.bind_some]
    rw [if_pos (by rw [rowR_len he h];omega),List.drop_zero,rowR_take he]
  simp only [xw,hx,hs,hd,hr,Option.bind_some]
  rw [if_pos ⟨trivial,hz,by rw [rowR_len he h];omega,repl_all h1 m⟩]
  rw [repl_take he hmin.1,Nat.zero_add,rowR_splice he (by omega)]
theorem r_cpy0 {e : List DV} {b c : Nat} (he : e.length=8) (h1 : (e.map AV.d).all AV.one=true) (hd : y.ev fr=.slL b 0 c 8) (hx : x.ev fr=.d (.sl e 1)) (hr : C b=some (repl (zeroA zsN) c)) (hz : Z b=false)
    (k : R P l base kp Q nx (fr.put d (.i (Nat.min 1 c : Nat))) (C.put b (rowR (e.map AV.d) (Nat.min 1 c) c)) Z) : R P ((n,⟨some d,none,.cpy 8 y x⟩) :: l) base kp Q nx fr C Z:=by
  refine r_w (v:=.i (Nat.min 1 c : Nat)) (C':=C.put b (rowR (e.map AV.d) (Nat.min 1 c) c)) ?_ k
  have hs : srcOf C 8 (.d (.sl e 1))=some (e.map AV.d,1):=by
    cases e with
    | nil=>simp at he
    | cons a e=>simp only [srcOf];rw [if_pos (by omega)]
  have hmin : Nat.min 1 c≤1∧Nat.min 1 c≤c:=⟨Nat.min_le_left _ _,Nat.min_le_right _ _⟩
  have hl : (repl (zeroA zsN) c).length=c * 8:=by rw [repl_len];rfl
  simp only [xw,hx,hs,hd,hr,Option.bind_some]
  rw [if_pos ⟨trivial,hz,by rw [hl];omega,h1⟩]
  have e1 : (e.map AV.d).take (Nat.min 1 c * 8)=repl (e.map AV.d) (Nat.min 1 c):=by
    have:=repl_take (a:=e.map AV.d) (by simpa using he) hmin.1
    simpa [repl] using this
  have e2 : repl (zeroA zsN) c=rowR (e.map AV.d) 0 c:=by simp [rowR,repl]
  have e3:=rowR_splice (e:=e.map AV.d) (by simpa using he) (m:=0) (c:=c) (k:=Nat.min 1 c) (by omega)
  rw [Nat.zero_mul,Nat.zero_add] at e3
  rw [e1,e2,e3]
end
set_option maxHeartbeats 4000000
attribute [local irreducible] W E R KP thenK blockK retK Good xwp aRun
theorem repl_map (e : List DV) : ∀ c,repl (e.map AV.d) c=((List.replicate c e).flatten).map AV.d
  | 0=>rfl
  | c + 1=>by rw [repl,repl_map e c,List.replicate_succ,List.flatten_cons,List.map_append]
theorem repeat_good (e : List DV) (he : e.length=8) (h1 : (e.map AV.d).all AV.one=true) (c : Nat) (hc : c < 21) : Good Try.prog 161 [.d (.sl e 1),.i (c : Nat)] none (.slL 1 0 c 8) none (some ((List.replicate c e).flatten)):=by
  have hm:=mul_good c hc
  have hl : (e.map AV.d).length=8:=by simpa using he
  have hD : ∀ m,(rowR (e.map AV.d) m c).all AV.isD=true:=by
    intro m
    rw [rowR,List.all_append,repl_all (by rw [List.all_map];simp [AV.isD]) m,repl_all (by rfl) (c - m)];rfl
  refine b161 (by simp) (by simp) (w_init ?_)
  unfold x161
  repeat' (first|(apply r_mvV;rfl)|(apply r_mvS;rfl)|(apply r_mvSL;rfl)|(apply r_mvT;rfl)|(apply r_cvU (m:=1);rfl;omega)|(apply r_cvU (m:=c);rfl;omega)|(apply r_callA (ags:=[.d (.val (.int .u64 1)),.d (.val (.int .u64 (c : Nat)))]);rfl;rfl;exact hm)|(apply r_gtrU (m:=c);rfl;rfl;omega)|(apply r_cvI (m:=c);rfl;omega)|(apply r_mksN (m:=c);rfl;rfl;((conv=>lhs;simp only [Nat.reduceAdd])<;>rfl);omega)|(apply r_cpy0 (e:=e) (b:=23) (c:=c);exact he;exact h1;rfl;rfl;rfl;rfl)|(apply r_lss;rfl;rfl;(first|(apply dT;omega)|(apply dF;omega)|rfl))|(apply r_pickF;rfl)|(apply r_lenD;rfl)|(apply r_ext;rfl;rfl)|(apply r_gT;rfl)|(apply r_p;rfl)|(apply r_nilK)|(apply k_V;rfl)|(apply k_S;rfl)|(apply k_SL;rfl)|(apply k_nil)|(apply w_seq)|(apply w_ops;((conv=>lhs;simp only [Nat.reduceAdd])<;>rfl))|(apply w_condF;rfl)|(apply e_thenN)|(apply w_block)|(apply w_skip))
  apply w_loopI (S:=fun m : Nat=>⟨((Fr.nil.put 7 (.slL 23 0 c 8)).put 8 (.i m)),Heap.nil.put 23 (rowR (e.map AV.d) m c),Frz.but 100 23,100⟩) (m:=fun m=>c - m) (I:=fun m=>m≤c∧(0 < c→0 < m)) (i0:=Nat.min 1 c)
  · exact ⟨Nat.min_le_right _ _,fun h=>by show 0 < min 1 c;omega⟩
  · refine wk1D (by omega) (by omega) rfl rfl (hD _) ?_
    repeat' (first|exact FWk.nil|(apply FWk.i;rfl;(first|rfl|omega|(simp;done)))|(apply FWk.sl;rfl;rfl;rfl;rfl;omega;rfl))
  rintro m K ⟨hmc,hm0⟩ hK
  dsimp only
  rcases Nat.lt_or_ge m c with hlt | hge
  · have hmp:=hm0 (by omega)
    have hmin : Nat.min m (c - m)≤c - m∧0 < Nat.min m (c - m):=⟨Nat.min_le_right _ _,by show 0 < min m (c - m);omega⟩
    repeat' (first|(apply r_mvV;rfl)|(apply r_mvSL;rfl)|(apply r_slLlo (m:=m);rfl;rfl;exact hmp;exact hlt)|(apply r_slLhi (m:=m);rfl;rfl;exact hmc)|(apply r_cpyR (e:=e.map AV.d) (m:=m) (c:=c);exact hl;exact h1;rfl;rfl;rfl;rfl;exact hmc)|(apply r_lss;rfl;rfl;(first|(apply dT;omega)|(apply dF;omega)|rfl))|(apply r_add;rfl;rfl;rfl;omega)|(apply r_lenL;rfl)|(apply r_nilK)|(apply k_V;rfl)|(apply k_SL;rfl)|(apply k_nil)|(apply w_seq)|(apply w_ops;((conv=>lhs;simp only [Nat.reduceAdd])<;>rfl))|(apply w_condT;rfl)|(apply e_thenN)|(apply w_block)|(apply e_blkN)|(apply w_skip))
    apply e_thenK
    apply hK (m + Nat.min m (c - m))
    · exact ⟨by omega,fun _=>by omega⟩
    · omega
    · refine wk1D (by omega) (by omega) rfl rfl (hD _) ?_
      repeat' (first|exact FWk.nil|(apply FWk.i;rfl;(first|rfl|omega|(simp;done)))|(apply FWk.sl;rfl;rfl;rfl;rfl;omega;rfl))
  · have ei : m=c:=by omega
    subst ei
    have er : rowR (e.map AV.d) m m=((List.replicate m e).flatten).map AV.d:=by
      rw [rowR,Nat.sub_self,repl_map];simp [repl]
    rw [er]
    repeat' (first|(apply r_mvV;rfl)|(apply r_mvSL;rfl)|(apply r_lss;rfl;rfl;(first|(apply dT;omega)|(apply dF;omega)|rfl))|(apply r_lenL;rfl)|(apply r_nilK)|(apply k_V;rfl)|(apply k_SL;rfl)|(apply k_nil)|(apply e_ret;rfl)|(apply w_seq)|(apply w_ops;((conv=>lhs;simp only [Nat.reduceAdd])<;>rfl))|(apply w_condF;rfl)|(apply e_thenN)|(apply e_thenX)|(apply e_blkE)|(apply w_exit)|(apply w_ret))
    exact .new _ _ _ _ _ rfl rfl rfl
end Go.Sv
namespace Go.Sv
open Go Go.Proofs
theorem encL_rep (t : T) : ∀ m,encL (List.replicate m t)=(List.replicate m (encN t)).flatten
  | 0=>rfl
  | m + 1=>by rw [List.replicate_succ,encL,encL_rep t m,List.replicate_succ,List.flatten_cons]
theorem encL_app : ∀ (l r : List T),encL (l++r)=encL l++encL r
  | [],r=>rfl
  | t :: l,r=>by rw [List.cons_append,encL,encL_app l r,encL,List.append_assoc]
theorem encN_norm (t : T) : (encN t).map DV.norm=encN t:=by cases t;rfl
theorem encL_norm : ∀ l : List T,(encL l).map DV.norm=encL l
  | []=>rfl
  | t :: l=>by rw [encL,List.map_append,encN_norm,encL_norm l]
theorem encL_length : ∀ l : List T,(encL l).length=l.length * 8
  | []=>rfl
  | t :: l=>by rw [encL,List.length_append,encN_len,encL_length l,List.length_cons];omega
theorem mapO_app (g : AV→Option (DV × List Nat)) : ∀ (a b : List AV) (x y : List DV) (u v : List Nat),mapO g a=some (x,u)→mapO g b=some (y,v)→mapO g (a++b)=some (x++y,u++v)
  | [],b,x,y,u,v,h1,h2=>by cases h1;exact h2
  | c :: a,b,x,y,u,v,h1,h2=>by
    simp only [mapO] at h1
    obtain ⟨⟨p,q⟩,h3,h4⟩:=Option.bind_eq_some_iff.1 h1
    obtain ⟨⟨p',q'⟩,h5,h6⟩:=Option.map_eq_some_iff.1 h4
    cases h6
    simp only [List.cons_append,mapO,h3,Option.bind_some,mapO_app g a b p' y q' v h5 h2,Option.map_some,List.append_assoc]
theorem mapO_encL {C : Heap} {ex : Nat→Bool} (l : List T) : mapO (convC C ex 8) ((encL l).map AV.d)=some (encL l,[]):=by
  rw [mapO_d,encL_norm]
theorem one_encL (l : List T) : ((encL l).map AV.d).all AV.one=true:=by
  rw [List.all_map];simp [AV.one]
section
variable {P : Program} {Q : Cont} {fr : Fr} {C : Heap} {Z : Frz} {nx : Nat} {base n d : Nat} {l : List (Nat × XO)} {kp : Option (List Nat)} {x i y s : X}
theorem r_appN {b c id m j : Nat} {r src : List AV} (hs : s.ev fr=.slL b 0 m 8) (hx : x.ev fr=.slL c 0 j 8) (hC : C b=some r) (hCc : C c=some src) (hr : r.length=m * 8) (hsl : src.length=j * 8) (h1 : src.all AV.one=true) (hz : Z b=false) (hid : base + n=id) (hb : m + j≤100000000)
    (k : R P l base kp Q nx (fr.put d (.slL id 0 (m + j) 8)) ((C.del b).put id (r++src)) Z) : R P ((n,⟨some d,none,.app [.int .i64 0,.int .u64 0,.int .u64 0,.int .u64 0,.int .u64 0,.int .i64 0,.int .i64 0,.slice none 0 0] 80 s x⟩) :: l) base kp Q nx fr C Z:=by
  subst hid
  refine r_w (v:=.slL (base + n) 0 (m + j) 8) (C':=(C.del b).put (base + n) (r++src)) ?_ k
  have h2 : srcOf C 8 (.slL c 0 j 8)=some (src,j):=by
    simp only [srcOf,if_true,hCc,Option.bind_some]
    rw [if_pos (by omega),List.drop_zero,List.take_of_length_le (by omega)]
  simp only [xw,List.length_cons,List.length_nil,Nat.zero_add,Nat.reduceAdd,hx,h2,Option.bind_some,hs,hC]
  rw [if_pos h1,if_pos ⟨trivial,hz,by omega,by omega⟩,List.take_of_length_le (by omega)]
end
theorem r_callMN {P : Program} {Q : Cont} {fr : Fr} {C : Heap} {Z Z' : Frz} {nx : Nat} {base n d : Nat} {l : List (Nat × XO)} {kp : Option (List Nat)} {f : FuncId} {xs : List X} {ags bs : List AV} {us : List Nat} {id m sz : Nat} {ds : List DV} (ha : xs.map (X.ev fr)=ags) (hc : convAs C (fun _=>false) ags=some (bs,us)) (hid : base + n=id) (hg : Good P f bs none (.slL 1 0 m sz) none (some ds)) (hz : Z.add us=Z')
    (k : R P l base kp Q nx (fr.put d (.slL id 0 m sz)) (C.put id (ds.map AV.d)) Z') : R P ((n,⟨some d,none,.call f xs none true⟩) :: l) base kp Q nx fr C Z:=by
  subst hid
  exact s_callN ha hc hg hz rfl k
def starN (t : T) : T:=.node 5 0 0 0 0 0 (-1) [t]
def maybeN (t : T) : T:=.node 4 0 0 0 0 0 0 [t,.node 1 0 0 0 0 0 0 []]
def repRow (t : T) (lo : Nat) (hi : Int) : List T:=List.replicate lo t++(if hi < 0 then [starN t] else List.replicate (hi.toNat - lo) (maybeN t))
def repT (t : T) (lo : Nat) (hi : Int) : T:=match repRow t lo hi with
  | []=>.node 1 0 0 0 0 0 0 []
  | [u]=>u
  | l=>.node 3 0 0 0 0 0 0 l
set_option maxRecDepth 100000
set_option maxHeartbeats 4000000
attribute [local irreducible] W E R KP thenK blockK retK Good xwp aRun
theorem conv_row {C : Heap} {ex : Nat→Bool} {k id m : Nat} {row : List AV} {ds : List DV} {us : List Nat} (hC : C id=some row) (hm : row.length=m * 8) (h0 : 0 < m) (hex : ex id=false) (hr : mapO (convC C ex k) row=some (ds,us)) : convC C ex (k + 1) (.slL id 0 m 8)=some (.sl ds m,id :: us):=by
  simp only [convC]
  rw [if_neg (by omega),if_neg (by simp [hex])]
  simp only [hC,Option.bind_some]
  rw [if_pos (by omega),List.drop_zero,List.take_of_length_le (by omega),hr]
  rfl
theorem ret_cat {C : Heap} {Z : Frz} {live : Bool} {id m : Nat} {row : List AV} {L : List T} {us : List Nat} (hC : C id=some row) (hm : L.length=m) (hl : row.length=m * 8) (h0 : 0 < m) (hr : mapO (convC C (fun _=>false) 8) row=some (encL L,us)) : RetOK C Z (tupOf [.agg [.i 3,.d (.val (.int .u64 0)),.d (.val (.int .u64 0)),.d (.val (.int .u64 0)),.d (.val (.int .u64 0)),.i 0,.i 0,.slL id 0 m 8]]) live (nodeA (.node 3 0 0 0 0 0 0 L)) none none:=by
  refine .data _ ?_
  have h:=conv_row (ex:=fun _=>false) hC hl h0 rfl hr
  have hd : ∀ z : Value,(z=.int .i64 3 ∨ z=.int .u64 0 ∨ z=.int .i64 0)→convC C (fun _=>false) 9 (.d (.val z))=some (.val z,[]):=by
    rintro z (rfl | rfl | rfl)<;>rfl
  simp only [tupOf,convT,convA,mapO,h,hd _ (.inl rfl),hd _ (.inr (.inl rfl)),hd _ (.inr (.inr rfl)),Option.bind_some,Option.map_some]
  subst hm
  rfl
theorem repT_cat {t : T} {lo : Nat} {hi : Int} (h : 2≤(repRow t lo hi).length) : repT t lo hi=.node 3 0 0 0 0 0 0 (repRow t lo hi):=by
  unfold repT
  split
  · rename_i e;rw [e] at h;simp at h
  · rename_i e;rw [e] at h;simp at h
  · rfl
theorem row_facts (t : T) (lo : Nat) : (((List.replicate lo (encN t)).flatten).map AV.d).length=lo * 8∧∀ C,mapO (convC C (fun _=>false) 8) (((List.replicate lo (encN t)).flatten).map AV.d)=some (encL (List.replicate lo t),[]):=by
  constructor
  · rw [← encL_rep,List.length_map,encL_length,List.length_replicate]
  · intro C;rw [← encL_rep];exact mapO_encL _
theorem rep_neg (t : T) (lo : Nat) (hlo : lo < 21) : Good Try.prog 147 [nodeA t,.i (lo : Nat),.i (-1)] none (nodeA (repT t lo (-1))) none none:=by
  have hrp:=repeat_good (encN t) (encN_len t) (by have:=one_encL [t];simpa [encL] using this)
  have h1:=hrp lo hlo
  obtain ⟨hl1,hm1⟩:=row_facts t lo
  have er : 0 < lo→repT t lo (-1)=.node 3 0 0 0 0 0 0 (List.replicate lo t++[starN t]):=fun h=>by
    rw [repT_cat (by simp [repRow];omega)];rfl
  clear hrp
  obtain ⟨k,a,b,c,d,mn,mx,subs⟩:=t
  have e0 : nodeA (.node k a b c d mn mx subs)=.agg [.i k,.d (.val (.int .u64 a)),.d (.val (.int .u64 b)),.d (.val (.int .u64 c)),.d (.val (.int .u64 d)),.i mn,.i mx,.d (.sl (encL subs) subs.length)]:=rfl
  rw [e0]
  refine b147 (by simp) (by simp) (w_init ?_)
  unfold x147
  cases lo with
  | zero =>
    repeat' (first|(apply r_mvV;rfl)|(apply r_mvSL;rfl)|(apply r_ldL (v:=.agg [.i k,.d (.val (.int .u64 a)),.d (.val (.int .u64 b)),.d (.val (.int .u64 c)),.d (.val (.int .u64 d)),.i mn,.i mx,.d (.sl (encL subs) subs.length)]);rfl;rfl;rfl)|(apply r_n (v:=.slL 4 0 1 8) (r:=[.i k,.d (.val (.int .u64 a)),.d (.val (.int .u64 b)),.d (.val (.int .u64 c)),.d (.val (.int .u64 d)),.i mn,.i mx,.d (.sl (encL subs) subs.length)]);rfl)|(apply r_n (v:=.slL 13 0 1 8) (r:=[.i k,.d (.val (.int .u64 a)),.d (.val (.int .u64 b)),.d (.val (.int .u64 c)),.d (.val (.int .u64 d)),.i mn,.i mx,.d (.sl (encL subs) subs.length)]);rfl)|(apply r_p (v:=.agg [.i 5,.d (.val (.int .u64 0)),.d (.val (.int .u64 0)),.d (.val (.int .u64 0)),.d (.val (.int .u64 0)),.i 0,.i (-1),.slL 13 0 1 8]);rfl)|(apply r_n (v:=.slL 15 0 1 8) (r:=[.i 5,.d (.val (.int .u64 0)),.d (.val (.int .u64 0)),.d (.val (.int .u64 0)),.d (.val (.int .u64 0)),.i 0,.i (-1),.slL 13 0 1 8]);rfl)|(apply r_callMN (id:=6) (us:=[4]) (bs:=[.d (.sl (encN (.node k a b c d mn mx subs)) 1),.i (0 : Nat)]);rfl;rfl;rfl;exact h1;rfl)|(apply r_appN (b:=6) (c:=15) (id:=16) (m:=0) (j:=1) (r:=[]) (src:=[.i 5,.d (.val (.int .u64 0)),.d (.val (.int .u64 0)),.d (.val (.int .u64 0)),.d (.val (.int .u64 0)),.i 0,.i (-1),.slL 13 0 1 8]);rfl;rfl;rfl;rfl;rfl;rfl;rfl;rfl;rfl;omega)|(apply r_ldL (v:=.agg [.i 5,.d (.val (.int .u64 0)),.d (.val (.int .u64 0)),.d (.val (.int .u64 0)),.d (.val (.int .u64 0)),.i 0,.i (-1),.slL 13 0 1 8]);rfl;rfl;rfl)|(apply r_eql;rfl;rfl;(first|(apply dT;omega)|(apply dF;omega)|rfl))|(apply r_lss;rfl;rfl;(first|(apply dT;omega)|(apply dF;omega)|rfl))|(apply r_lenL;rfl)|(apply r_alloc;((conv=>lhs;simp only [Nat.reduceAdd])<;>rfl);rfl)|(apply r_box;((conv=>lhs;simp only [Nat.reduceAdd])<;>rfl);rfl;rfl;rfl)|(apply r_stL;rfl;rfl;rfl;rfl;(first|rfl|(simp only [z_nil,z_add]<;>rfl));rfl;rfl)|(apply r_p;rfl)|(apply r_nilK)|(apply k_V;rfl)|(apply k_PL;rfl)|(apply k_SL;rfl)|(apply k_nil)|(apply e_ret;rfl)|(apply w_seq)|(apply w_ops;((conv=>lhs;simp only [Nat.reduceAdd])<;>rfl))|(apply w_condT;rfl)|(apply w_condF;rfl)|(apply e_thenN)|(apply w_block)|(apply e_thenR)|(apply e_blkN)|(apply e_blkR)|(apply w_ret))
    exact .data _ rfl
  | succ lo =>
    rw [er (by omega)]
    repeat' (first|(apply r_mvV;rfl)|(apply r_mvSL;rfl)|(apply r_ldL (v:=.agg [.i k,.d (.val (.int .u64 a)),.d (.val (.int .u64 b)),.d (.val (.int .u64 c)),.d (.val (.int .u64 d)),.i mn,.i mx,.d (.sl (encL subs) subs.length)]);rfl;rfl;rfl)|(apply r_n (v:=.slL 4 0 1 8) (r:=[.i k,.d (.val (.int .u64 a)),.d (.val (.int .u64 b)),.d (.val (.int .u64 c)),.d (.val (.int .u64 d)),.i mn,.i mx,.d (.sl (encL subs) subs.length)]);rfl)|(apply r_n (v:=.slL 13 0 1 8) (r:=[.i k,.d (.val (.int .u64 a)),.d (.val (.int .u64 b)),.d (.val (.int .u64 c)),.d (.val (.int .u64 d)),.i mn,.i mx,.d (.sl (encL subs) subs.length)]);rfl)|(apply r_p (v:=.agg [.i 5,.d (.val (.int .u64 0)),.d (.val (.int .u64 0)),.d (.val (.int .u64 0)),.d (.val (.int .u64 0)),.i 0,.i (-1),.slL 13 0 1 8]);rfl)|(apply r_n (v:=.slL 15 0 1 8) (r:=[.i 5,.d (.val (.int .u64 0)),.d (.val (.int .u64 0)),.d (.val (.int .u64 0)),.d (.val (.int .u64 0)),.i 0,.i (-1),.slL 13 0 1 8]);rfl)|(apply r_callMN (id:=6) (us:=[4]) (bs:=[.d (.sl (encN (.node k a b c d mn mx subs)) 1),.i ((lo + 1 : Nat) : Int)]);rfl;rfl;rfl;exact h1;rfl)|(apply r_appN (b:=6) (c:=15) (id:=16) (m:=lo + 1) (j:=1) (r:=((List.replicate (lo + 1) (encN (.node k a b c d mn mx subs))).flatten).map AV.d) (src:=[.i 5,.d (.val (.int .u64 0)),.d (.val (.int .u64 0)),.d (.val (.int .u64 0)),.d (.val (.int .u64 0)),.i 0,.i (-1),.slL 13 0 1 8]);rfl;rfl;rfl;rfl;exact hl1;rfl;rfl;rfl;rfl;omega)|(apply r_p (v:=.agg [.i 3,.d (.val (.int .u64 0)),.d (.val (.int .u64 0)),.d (.val (.int .u64 0)),.d (.val (.int .u64 0)),.i 0,.i 0,.slL 16 0 (lo + 1 + 1) 8]);rfl)|(apply r_eql;rfl;rfl;(first|(apply dT;omega)|(apply dF;omega)|rfl))|(apply r_lss;rfl;rfl;(first|(apply dT;omega)|(apply dF;omega)|rfl))|(apply r_lenL;rfl)|(apply r_alloc;((conv=>lhs;simp only [Nat.reduceAdd])<;>rfl);rfl)|(apply r_box;((conv=>lhs;simp only [Nat.reduceAdd])<;>rfl);rfl;rfl;rfl)|(apply r_stL;rfl;rfl;rfl;rfl;(first|rfl|(simp only [z_nil,z_add]<;>rfl));rfl;rfl)|(apply r_nilK)|(apply k_V;rfl)|(apply k_PL;rfl)|(apply k_SL;rfl)|(apply k_nil)|(apply e_ret;rfl)|(apply w_seq)|(apply w_ops;((conv=>lhs;simp only [Nat.reduceAdd])<;>rfl))|(apply w_condT;rfl)|(apply w_condF;rfl)|(apply e_thenN)|(apply w_block)|(apply e_blkN)|(apply w_ret)|(apply w_skip))
    refine ret_cat (id:=16) (row:=((List.replicate (lo + 1) (encN (.node k a b c d mn mx subs))).flatten).map AV.d++[.i 5,.d (.val (.int .u64 0)),.d (.val (.int .u64 0)),.d (.val (.int .u64 0)),.d (.val (.int .u64 0)),.i 0,.i (-1),.slL 13 0 1 8]) (us:=[]++[13]) rfl (by simp) (by rw [List.length_append,hl1];simp;omega) (by omega) ?_
    rw [encL_app]
    exact mapO_app _ _ _ _ _ _ _ (hm1 _) rfl
theorem rep_pos (t : T) (lo hi : Nat) (hlo : lo≤hi) (hhi : hi < 21) : Good Try.prog 147 [nodeA t,.i (lo : Nat),.i (hi : Nat)] none (nodeA (repT t lo (hi : Nat))) none none:=by
  have hrp:=repeat_good (encN t) (encN_len t) (by have:=one_encL [t];simpa [encL] using this)
  have h1:=hrp lo (by omega)
  obtain ⟨hl1,hm1⟩:=row_facts t lo
  clear hrp
  have hrp2:=repeat_good (encN (maybeN t)) (encN_len _) (by have:=one_encL [maybeN t];simpa [encL] using this)
  have h2:=hrp2 (hi - lo) (by omega)
  obtain ⟨hl2,hm2⟩:=row_facts (maybeN t) (hi - lo)
  clear hrp2
  have er : 2≤hi→repT t lo (hi : Nat)=.node 3 0 0 0 0 0 0 (List.replicate lo t++List.replicate (hi - lo) (maybeN t)):=fun h=>by
    have e : repRow t lo (hi : Nat)=List.replicate lo t++List.replicate (hi - lo) (maybeN t):=by
      rw [repRow,if_neg (by omega),Int.toNat_natCast]
    rw [repT_cat (by rw [e];simp;omega),e]
  have one2 : (((List.replicate (hi - lo) (encN (maybeN t))).flatten).map AV.d).all AV.one=true:=by rw [List.all_map];simp [AV.one]
  have h2' : (hi : Int) - (lo : Int)=((hi - lo : Nat) : Int):=by omega
  obtain ⟨k,a,b,c,d,mn,mx,subs⟩:=t
  have e0 : nodeA (.node k a b c d mn mx subs)=.agg [.i k,.d (.val (.int .u64 a)),.d (.val (.int .u64 b)),.d (.val (.int .u64 c)),.d (.val (.int .u64 d)),.i mn,.i mx,.d (.sl (encL subs) subs.length)]:=rfl
  rw [e0]
  refine b147 (by simp) (by simp) (w_init ?_)
  unfold x147
  rcases Nat.lt_or_ge lo hi with hlt | hge
  · rcases Nat.lt_or_ge 1 hi with h3 | h3
    · rw [er h3]
      repeat' (first|(apply r_mvV;rfl)|(apply r_mvSL;rfl)|(apply r_ldL (v:=.agg [.i k,.d (.val (.int .u64 a)),.d (.val (.int .u64 b)),.d (.val (.int .u64 c)),.d (.val (.int .u64 d)),.i mn,.i mx,.d (.sl (encL subs) subs.length)]);rfl;rfl;rfl)|(apply r_n (v:=.slL 4 0 1 8) (r:=[.i k,.d (.val (.int .u64 a)),.d (.val (.int .u64 b)),.d (.val (.int .u64 c)),.d (.val (.int .u64 d)),.i mn,.i mx,.d (.sl (encL subs) subs.length)]);rfl)|(apply r_n (v:=.slL 17 0 2 8) (r:=[.i k,.d (.val (.int .u64 a)),.d (.val (.int .u64 b)),.d (.val (.int .u64 c)),.d (.val (.int .u64 d)),.i mn,.i mx,.d (.sl (encL subs) subs.length),.i 1,.d (.val (.int .u64 0)),.d (.val (.int .u64 0)),.d (.val (.int .u64 0)),.d (.val (.int .u64 0)),.i 0,.i 0,.d (.val (.slice none 0 0))]);rfl)|(apply r_p (v:=.agg [.i 1,.d (.val (.int .u64 0)),.d (.val (.int .u64 0)),.d (.val (.int .u64 0)),.d (.val (.int .u64 0)),.i 0,.i 0,.d (.val (.slice none 0 0))]);rfl)|(apply r_p (v:=.agg [.i 4,.d (.val (.int .u64 0)),.d (.val (.int .u64 0)),.d (.val (.int .u64 0)),.d (.val (.int .u64 0)),.i 0,.i 0,.slL 17 0 2 8]);rfl)|(apply r_n (v:=.slL 23 0 1 8) (r:=[.i 4,.d (.val (.int .u64 0)),.d (.val (.int .u64 0)),.d (.val (.int .u64 0)),.d (.val (.int .u64 0)),.i 0,.i 0,.slL 17 0 2 8]);rfl)|(apply r_ldL (v:=.agg [.i 4,.d (.val (.int .u64 0)),.d (.val (.int .u64 0)),.d (.val (.int .u64 0)),.d (.val (.int .u64 0)),.i 0,.i 0,.slL 17 0 2 8]);rfl;rfl;rfl)|(apply r_callMN (id:=6) (us:=[4]) (bs:=[.d (.sl (encN (.node k a b c d mn mx subs)) 1),.i (lo : Nat)]);rfl;rfl;rfl;exact h1;rfl)|(apply r_sub (c:=((hi - lo : Nat) : Int));rfl;rfl;exact h2';omega)|(apply r_callMN (id:=27) (us:=[23,17]) (bs:=[.d (.sl (encN (maybeN (.node k a b c d mn mx subs))) 1),.i ((hi - lo : Nat) : Int)]);rfl;rfl;rfl;exact h2;rfl)|(apply r_appN (b:=6) (c:=27) (id:=28) (m:=lo) (j:=hi - lo) (r:=((List.replicate lo (encN (.node k a b c d mn mx subs))).flatten).map AV.d) (src:=((List.replicate (hi - lo) (encN (maybeN (.node k a b c d mn mx subs)))).flatten).map AV.d);rfl;rfl;rfl;rfl;exact hl1;exact hl2;exact one2;rfl;rfl;omega)|(apply r_p (v:=.agg [.i 3,.d (.val (.int .u64 0)),.d (.val (.int .u64 0)),.d (.val (.int .u64 0)),.d (.val (.int .u64 0)),.i 0,.i 0,.slL 28 0 (lo + (hi - lo)) 8]);rfl)|(apply r_eql;rfl;rfl;(first|(apply dT;omega)|(apply dF;omega)|rfl))|(apply r_lss;rfl;rfl;(first|(apply dT;omega)|(apply dF;omega)|rfl))|(apply r_gtr;rfl;rfl;(first|(apply dT;omega)|(apply dF;omega)|rfl))|(apply r_lenL;rfl)|(apply r_alloc;((conv=>lhs;simp only [Nat.reduceAdd])<;>rfl);rfl)|(apply r_box;((conv=>lhs;simp only [Nat.reduceAdd])<;>rfl);rfl;rfl;rfl)|(apply r_stL;rfl;rfl;rfl;rfl;(first|rfl|(simp only [z_nil,z_add]<;>rfl));rfl;rfl)|(apply r_nilK)|(apply k_V;rfl)|(apply k_PL;rfl)|(apply k_SL;rfl)|(apply k_nil)|(apply e_ret;rfl)|(apply w_seq)|(apply w_ops;((conv=>lhs;simp only [Nat.reduceAdd])<;>rfl))|(apply w_condT;rfl)|(apply w_condF;rfl)|(apply e_thenN)|(apply w_block)|(apply e_blkN)|(apply w_ret)|(apply w_skip))
      refine ret_cat (id:=28) (row:=((List.replicate lo (encN (.node k a b c d mn mx subs))).flatten).map AV.d++((List.replicate (hi - lo) (encN (maybeN (.node k a b c d mn mx subs)))).flatten).map AV.d) (us:=[]++[]) rfl (by simp) (by rw [List.length_append,hl1,hl2];omega) (by omega) ?_
      rw [encL_app]
      exact mapO_app _ _ _ _ _ _ _ (hm1 _) (hm2 _)
    · have e1 : hi=1:=by omega
      have e2 : lo=0:=by omega
      subst e1 e2
      repeat' (first|(apply r_mvV;rfl)|(apply r_mvSL;rfl)|(apply r_ldL (v:=.agg [.i k,.d (.val (.int .u64 a)),.d (.val (.int .u64 b)),.d (.val (.int .u64 c)),.d (.val (.int .u64 d)),.i mn,.i mx,.d (.sl (encL subs) subs.length)]);rfl;rfl;rfl)|(apply r_n (v:=.slL 4 0 1 8) (r:=[.i k,.d (.val (.int .u64 a)),.d (.val (.int .u64 b)),.d (.val (.int .u64 c)),.d (.val (.int .u64 d)),.i mn,.i mx,.d (.sl (encL subs) subs.length)]);rfl)|(apply r_n (v:=.slL 17 0 2 8) (r:=[.i k,.d (.val (.int .u64 a)),.d (.val (.int .u64 b)),.d (.val (.int .u64 c)),.d (.val (.int .u64 d)),.i mn,.i mx,.d (.sl (encL subs) subs.length),.i 1,.d (.val (.int .u64 0)),.d (.val (.int .u64 0)),.d (.val (.int .u64 0)),.d (.val (.int .u64 0)),.i 0,.i 0,.d (.val (.slice none 0 0))]);rfl)|(apply r_p (v:=.agg [.i 1,.d (.val (.int .u64 0)),.d (.val (.int .u64 0)),.d (.val (.int .u64 0)),.d (.val (.int .u64 0)),.i 0,.i 0,.d (.val (.slice none 0 0))]);rfl)|(apply r_p (v:=.agg [.i 4,.d (.val (.int .u64 0)),.d (.val (.int .u64 0)),.d (.val (.int .u64 0)),.d (.val (.int .u64 0)),.i 0,.i 0,.slL 17 0 2 8]);rfl)|(apply r_n (v:=.slL 23 0 1 8) (r:=[.i 4,.d (.val (.int .u64 0)),.d (.val (.int .u64 0)),.d (.val (.int .u64 0)),.d (.val (.int .u64 0)),.i 0,.i 0,.slL 17 0 2 8]);rfl)|(apply r_ldL (v:=.agg [.i 4,.d (.val (.int .u64 0)),.d (.val (.int .u64 0)),.d (.val (.int .u64 0)),.d (.val (.int .u64 0)),.i 0,.i 0,.slL 17 0 2 8]);rfl;rfl;rfl)|(apply r_callMN (id:=6) (us:=[4]) (bs:=[.d (.sl (encN (.node k a b c d mn mx subs)) 1),.i (0 : Nat)]);rfl;rfl;rfl;exact h1;rfl)|(apply r_callMN (id:=27) (us:=[23,17]) (bs:=[.d (.sl (encN (maybeN (.node k a b c d mn mx subs))) 1),.i (1 : Nat)]);rfl;rfl;rfl;exact h2;rfl)|(apply r_appN (b:=6) (c:=27) (id:=28) (m:=0) (j:=1) (r:=[]) (src:=(encN (maybeN (.node k a b c d mn mx subs))).map AV.d);rfl;rfl;rfl;rfl;rfl;rfl;rfl;rfl;rfl;omega)|(apply r_ldL (v:=nodeA (maybeN (.node k a b c d mn mx subs)));rfl;rfl;rfl)|(apply r_eql;rfl;rfl;(first|(apply dT;omega)|(apply dF;omega)|rfl))|(apply r_lss;rfl;rfl;(first|(apply dT;omega)|(apply dF;omega)|rfl))|(apply r_gtr;rfl;rfl;(first|(apply dT;omega)|(apply dF;omega)|rfl))|(apply r_sub;rfl;rfl;rfl;omega)|(apply r_lenL;rfl)|(apply r_alloc;((conv=>lhs;simp only [Nat.reduceAdd])<;>rfl);rfl)|(apply r_box;((conv=>lhs;simp only [Nat.reduceAdd])<;>rfl);rfl;rfl;rfl)|(apply r_stL;rfl;rfl;rfl;rfl;(first|rfl|(simp only [z_nil,z_add]<;>rfl));rfl;rfl)|(apply r_p;rfl)|(apply r_nilK)|(apply k_V;rfl)|(apply k_PL;rfl)|(apply k_SL;rfl)|(apply k_nil)|(apply e_ret;rfl)|(apply w_seq)|(apply w_ops;((conv=>lhs;simp only [Nat.reduceAdd])<;>rfl))|(apply w_condT;rfl)|(apply w_condF;rfl)|(apply e_thenN)|(apply w_block)|(apply e_thenR)|(apply e_blkN)|(apply e_blkR)|(apply w_ret))
      exact .data _ rfl
  · have e : hi=lo:=by omega
    subst e
    rcases Nat.lt_or_ge 1 hi with h3 | h3
    · rw [er h3]
      repeat' (first|(apply r_mvV;rfl)|(apply r_mvSL;rfl)|(apply r_ldL (v:=.agg [.i k,.d (.val (.int .u64 a)),.d (.val (.int .u64 b)),.d (.val (.int .u64 c)),.d (.val (.int .u64 d)),.i mn,.i mx,.d (.sl (encL subs) subs.length)]);rfl;rfl;rfl)|(apply r_n (v:=.slL 4 0 1 8) (r:=[.i k,.d (.val (.int .u64 a)),.d (.val (.int .u64 b)),.d (.val (.int .u64 c)),.d (.val (.int .u64 d)),.i mn,.i mx,.d (.sl (encL subs) subs.length)]);rfl)|(apply r_callMN (id:=6) (us:=[4]) (bs:=[.d (.sl (encN (.node k a b c d mn mx subs)) 1),.i (hi : Nat)]);rfl;rfl;rfl;exact h1;rfl)|(apply r_p (v:=.agg [.i 3,.d (.val (.int .u64 0)),.d (.val (.int .u64 0)),.d (.val (.int .u64 0)),.d (.val (.int .u64 0)),.i 0,.i 0,.slL 6 0 hi 8]);rfl)|(apply r_eql;rfl;rfl;(first|(apply dT;omega)|(apply dF;omega)|rfl))|(apply r_lss;rfl;rfl;(first|(apply dT;omega)|(apply dF;omega)|rfl))|(apply r_gtr;rfl;rfl;(first|(apply dT;omega)|(apply dF;omega)|rfl))|(apply r_lenL;rfl)|(apply r_alloc;((conv=>lhs;simp only [Nat.reduceAdd])<;>rfl);rfl)|(apply r_box;((conv=>lhs;simp only [Nat.reduceAdd])<;>rfl);rfl;rfl;rfl)|(apply r_stL;rfl;rfl;rfl;rfl;(first|rfl|(simp only [z_nil,z_add]<;>rfl));rfl;rfl)|(apply r_nilK)|(apply k_V;rfl)|(apply k_PL;rfl)|(apply k_SL;rfl)|(apply k_nil)|(apply e_ret;rfl)|(apply w_seq)|(apply w_ops;((conv=>lhs;simp only [Nat.reduceAdd])<;>rfl))|(apply w_condF;rfl)|(apply e_thenN)|(apply w_block)|(apply e_blkN)|(apply w_ret)|(apply w_skip))
      refine ret_cat (id:=6) (row:=((List.replicate hi (encN (.node k a b c d mn mx subs))).flatten).map AV.d) (us:=[]) rfl (by simp) hl1 (by omega) ?_
      rw [Nat.sub_self,List.replicate_zero,List.append_nil]
      exact hm1 _
    · rcases Nat.lt_or_ge 0 hi with h4 | h4
      · have e1 : hi=1:=by omega
        subst e1
        repeat' (first|(apply r_mvV;rfl)|(apply r_mvSL;rfl)|(apply r_ldL (v:=.agg [.i k,.d (.val (.int .u64 a)),.d (.val (.int .u64 b)),.d (.val (.int .u64 c)),.d (.val (.int .u64 d)),.i mn,.i mx,.d (.sl (encL subs) subs.length)]);rfl;rfl;rfl)|(apply r_n (v:=.slL 4 0 1 8) (r:=[.i k,.d (.val (.int .u64 a)),.d (.val (.int .u64 b)),.d (.val (.int .u64 c)),.d (.val (.int .u64 d)),.i mn,.i mx,.d (.sl (encL subs) subs.length)]);rfl)|(apply r_callMN (id:=6) (us:=[4]) (bs:=[.d (.sl (encN (.node k a b c d mn mx subs)) 1),.i (1 : Nat)]);rfl;rfl;rfl;exact h1;rfl)|(apply r_eql;rfl;rfl;(first|(apply dT;omega)|(apply dF;omega)|rfl))|(apply r_lss;rfl;rfl;(first|(apply dT;omega)|(apply dF;omega)|rfl))|(apply r_gtr;rfl;rfl;(first|(apply dT;omega)|(apply dF;omega)|rfl))|(apply r_lenL;rfl)|(apply r_alloc;((conv=>lhs;simp only [Nat.reduceAdd])<;>rfl);rfl)|(apply r_box;((conv=>lhs;simp only [Nat.reduceAdd])<;>rfl);rfl;rfl;rfl)|(apply r_stL;rfl;rfl;rfl;rfl;(first|rfl|(simp only [z_nil,z_add]<;>rfl));rfl;rfl)|(apply r_p;rfl)|(apply r_nilK)|(apply k_V;rfl)|(apply k_PL;rfl)|(apply k_SL;rfl)|(apply k_nil)|(apply e_ret;rfl)|(apply w_seq)|(apply w_ops;((conv=>lhs;simp only [Nat.reduceAdd])<;>rfl))|(apply w_condT;rfl)|(apply w_condF;rfl)|(apply e_thenN)|(apply w_block)|(apply e_thenR)|(apply e_blkN)|(apply e_blkR)|(apply w_ret)|(apply w_skip))
        exact .data _ rfl
      · have e1 : hi=0:=by omega
        subst e1
        repeat' (first|(apply r_mvV;rfl)|(apply r_mvSL;rfl)|(apply r_ldL (v:=.agg [.i k,.d (.val (.int .u64 a)),.d (.val (.int .u64 b)),.d (.val (.int .u64 c)),.d (.val (.int .u64 d)),.i mn,.i mx,.d (.sl (encL subs) subs.length)]);rfl;rfl;rfl)|(apply r_n (v:=.slL 4 0 1 8) (r:=[.i k,.d (.val (.int .u64 a)),.d (.val (.int .u64 b)),.d (.val (.int .u64 c)),.d (.val (.int .u64 d)),.i mn,.i mx,.d (.sl (encL subs) subs.length)]);rfl)|(apply r_callMN (id:=6) (us:=[4]) (bs:=[.d (.sl (encN (.node k a b c d mn mx subs)) 1),.i (0 : Nat)]);rfl;rfl;rfl;exact h1;rfl)|(apply r_p (v:=.agg [.i 1,.d (.val (.int .u64 0)),.d (.val (.int .u64 0)),.d (.val (.int .u64 0)),.d (.val (.int .u64 0)),.i 0,.i 0,.d (.val (.slice none 0 0))]);rfl)|(apply r_eql;rfl;rfl;(first|(apply dT;omega)|(apply dF;omega)|rfl))|(apply r_lss;rfl;rfl;(first|(apply dT;omega)|(apply dF;omega)|rfl))|(apply r_gtr;rfl;rfl;(first|(apply dT;omega)|(apply dF;omega)|rfl))|(apply r_lenL;rfl)|(apply r_alloc;((conv=>lhs;simp only [Nat.reduceAdd])<;>rfl);rfl)|(apply r_box;((conv=>lhs;simp only [Nat.reduceAdd])<;>rfl);rfl;rfl;rfl)|(apply r_stL;rfl;rfl;rfl;rfl;(first|rfl|(simp only [z_nil,z_add]<;>rfl));rfl;rfl)|(apply r_nilK)|(apply k_V;rfl)|(apply k_PL;rfl)|(apply k_SL;rfl)|(apply k_nil)|(apply e_ret;rfl)|(apply w_seq)|(apply w_ops;((conv=>lhs;simp only [Nat.reduceAdd])<;>rfl))|(apply w_condT;rfl)|(apply w_condF;rfl)|(apply e_thenN)|(apply w_block)|(apply e_thenR)|(apply e_blkN)|(apply e_blkR)|(apply w_ret)|(apply w_skip))
        exact .data _ rfl
end Go.Sv
namespace Go.Sv
open Go Go.Proofs
set_option maxRecDepth 100000
set_option maxHeartbeats 4000000
attribute [local irreducible] W E R KP thenK blockK retK Good xwp aRun
theorem mwide_good : ∀ (n : Nat) (t : T) (cs : List DV) (off : Nat),NodeAt cs off t→t.cnt≤n→n≤1000000→okT t→Good Try.prog 123 [.d (.ptr cs off)] none (.i (wideT t)) none none:=by
  intro n
  induction n with
  | zero=>intro t cs off _ ht;have:=cnt_pos t;omega
  | succ n ih =>
  intro t cs off hs ht hc hok
  obtain ⟨k,a,b,c,d,mn,mx,subs⟩:=t
  have hR:=okT_R hok
  have hoks : okL subs:=by simp only [okT] at hok;exact hok.2
  have ih' : ∀ i (h : i < subs.length),Good Try.prog 123 [.d (.ptr (encL subs) (i * 8))] none (.i (wideT subs[i])) none none:=by
    intro i h
    refine ih _ _ _ (NodeAt.sub h) ?_ (by omega) (okL_get subs i h hoks)
    have:=cntL_get subs i h
    simp only [T.cnt] at ht
    omega
  have hlen : subs.length≤1000000:=by
    have:=cntL_len subs
    simp only [T.cnt] at ht
    omega
  refine b123 (by simp) (by simp) (w_init ?_)
  unfold x123
  repeat' (first|(apply r_mvV;rfl)|(apply r_mvP;rfl)|(apply r_nckD;rfl)|(apply r_faddD;rfl)|(apply r_l;apply ld_subs;assumption;rfl)|(apply r_lenD;rfl)|(apply r_nilK)|(apply k_V;rfl)|(apply k_P;rfl)|(apply k_nil)|(apply w_seq)|(apply w_ops;((conv=>lhs;simp only [Nat.reduceAdd])<;>rfl))|(apply e_thenN)|(apply w_block))
  apply w_loopI (ι:=Nat × Int) (S:=fun p=>⟨(((Fr.nil.put 0 (.d (.ptr cs off))).put 3 (.i p.2)).put 10 (.i subs.length)).put 11 (.i p.1),Heap.nil,Frz.lo 100,100⟩) (m:=fun p=>subs.length - p.1)
    (I:=fun p=>p.1≤subs.length∧(1≤p.2∧p.2≤1073741824)∧wideT (.node k a b c d mn mx subs)=wideL k mn mx (subs.drop p.1) p.2) (i0:=(0,1))
  · refine ⟨Nat.zero_le _,by simp,?_⟩
    simp [wideT]
  · refine wk0 (by omega) ?_
    repeat' (first|exact FWk.nil|(apply FWk.i;rfl;(first|rfl|omega|(simp;done)))|(apply FWk.d;rfl;rfl))
  rintro ⟨i,w⟩ K hi hK
  dsimp only at hi hK ⊢
  rcases Nat.lt_or_ge i subs.length with hlt | hge
  · have hd:=wideL_drop k mn mx subs w i hlt
    have hb:=wideT_in subs[i] (okL_get subs i hlt hoks)
    have hq:=wideQ_in hR (q:=wideT subs[i]) (by omega)
    have fin : ∀ fr C Z nx,Wk ⟨fr,C,Z,nx⟩ ⟨(((Fr.nil.put 0 (.d (.ptr cs off))).put 3 (.i (min (w + wideQ k mn mx (wideT subs[i])) 1073741824))).put 10 (.i subs.length)).put 11 (.i ((i + 1 : Nat) : Int)),Heap.nil,Frz.lo 100,100⟩→K ⟨fr,C,Z,nx⟩:=by
      intro fr C Z nx hw
      refine hK (i + 1,_) fr C Z nx ⟨by omega,by dsimp only;omega,?_⟩ (by dsimp only;omega) hw
      rw [hi.2.2,hd]
    by_cases h5 : k=5
    · have hr5:=hR h5
      by_cases hm : mx=-1
      · have hmul:=mul_in (show 0≤wideT subs[i]∧wideT subs[i]≤1073741824 by omega) (show 0≤mn + 1∧mn + 1≤21 by omega)
        have eq : wideQ k mn mx (wideT subs[i])=wideT subs[i] * (mn + 1) + 1:=by rw [wideQ,if_pos h5,if_pos hm]
        rw [eq] at fin hq
        repeat' (first|(apply r_mvV;rfl)|(apply r_mvP;rfl)|(apply r_nckD;rfl)|(apply r_faddD;rfl)|(apply r_l;apply ld_kind;assumption;rfl)|(apply r_l;apply ld_mn;assumption;rfl)|(apply r_l;apply ld_mx;assumption;rfl)|(apply r_l;apply ld_subs;assumption;rfl)|(apply r_p;apply ix_sub;rfl;rfl;omega)|(apply r_callA;rfl;rfl;apply ih' i hlt)|(apply r_mul;rfl;rfl;rfl;omega)|(apply r_eql;rfl;rfl;(first|(apply dT;omega)|(apply dF;omega)|rfl))|(apply r_neq;rfl;rfl;(first|(apply dT;omega)|(apply dF;omega)|rfl))|(apply r_lss;rfl;rfl;(first|(apply dT;omega)|(apply dF;omega)|rfl))|(apply r_add;rfl;rfl;rfl;omega)|(apply r_min2;rfl;rfl;rfl)|(apply r_nilK)|(apply k_V;rfl)|(apply k_P;rfl)|(apply k_nil)|(apply w_seq)|(apply w_ops;((conv=>lhs;simp only [Nat.reduceAdd])<;>rfl))|(apply w_condT;rfl)|(apply w_condF;rfl)|(apply e_thenN)|(apply w_block)|(apply e_blkN)|(apply w_skip))
        all_goals
          apply e_thenK;apply fin
          refine wk0 (by omega) ?_
          repeat' (first|exact FWk.nil|(apply FWk.i;rfl;(first|rfl|omega|(simp;done)))|(apply FWk.d;rfl;rfl))
      · have hmul:=mul_in (show 0≤wideT subs[i] + 2∧wideT subs[i] + 2≤1073741826 by omega) (show 0≤mx∧mx≤20 by omega)
        have eq : wideQ k mn mx (wideT subs[i])=(wideT subs[i] + 2) * mx:=by rw [wideQ,if_pos h5,if_neg hm]
        rw [eq] at fin hq
        repeat' (first|(apply r_mvV;rfl)|(apply r_mvP;rfl)|(apply r_nckD;rfl)|(apply r_faddD;rfl)|(apply r_l;apply ld_kind;assumption;rfl)|(apply r_l;apply ld_mx;assumption;rfl)|(apply r_l;apply ld_subs;assumption;rfl)|(apply r_p;apply ix_sub;rfl;rfl;omega)|(apply r_callA;rfl;rfl;apply ih' i hlt)|(apply r_mul;rfl;rfl;rfl;omega)|(apply r_eql;rfl;rfl;(first|(apply dT;omega)|(apply dF;omega)|rfl))|(apply r_neq;rfl;rfl;(first|(apply dT;omega)|(apply dF;omega)|rfl))|(apply r_lss;rfl;rfl;(first|(apply dT;omega)|(apply dF;omega)|rfl))|(apply r_add;rfl;rfl;rfl;omega)|(apply r_min2;rfl;rfl;rfl)|(apply r_nilK)|(apply k_V;rfl)|(apply k_P;rfl)|(apply k_nil)|(apply w_seq)|(apply w_ops;((conv=>lhs;simp only [Nat.reduceAdd])<;>rfl))|(apply w_condT;rfl)|(apply w_condF;rfl)|(apply e_thenN)|(apply w_block)|(apply e_blkN)|(apply w_skip))
        all_goals
          apply e_thenK;apply fin
          refine wk0 (by omega) ?_
          repeat' (first|exact FWk.nil|(apply FWk.i;rfl;(first|rfl|omega|(simp;done)))|(apply FWk.d;rfl;rfl))
    · have eq : wideQ k mn mx (wideT subs[i])=wideT subs[i]:=by rw [wideQ,if_neg h5]
      rw [eq] at fin hq
      repeat' (first|(apply r_mvV;rfl)|(apply r_mvP;rfl)|(apply r_nckD;rfl)|(apply r_faddD;rfl)|(apply r_l;apply ld_kind;assumption;rfl)|(apply r_l;apply ld_subs;assumption;rfl)|(apply r_p;apply ix_sub;rfl;rfl;omega)|(apply r_callA;rfl;rfl;apply ih' i hlt)|(apply r_neq;rfl;rfl;(first|(apply dT;omega)|(apply dF;omega)|rfl))|(apply r_lss;rfl;rfl;(first|(apply dT;omega)|(apply dF;omega)|rfl))|(apply r_add;rfl;rfl;rfl;omega)|(apply r_min2;rfl;rfl;rfl)|(apply r_nilK)|(apply k_V;rfl)|(apply k_P;rfl)|(apply k_nil)|(apply w_seq)|(apply w_ops;((conv=>lhs;simp only [Nat.reduceAdd])<;>rfl))|(apply w_condT;rfl)|(apply e_thenN)|(apply w_block)|(apply e_blkN)|(apply w_skip))
      all_goals
        apply e_thenK;apply fin
        refine wk0 (by omega) ?_
        repeat' (first|exact FWk.nil|(apply FWk.i;rfl;(first|rfl|omega|(simp;done)))|(apply FWk.d;rfl;rfl))
  · have e : wideT (.node k a b c d mn mx subs)=w:=by
      rw [hi.2.2,List.drop_of_length_le (by omega),wideL]
    repeat' (first|(apply r_mvV;rfl)|(apply r_lss;rfl;rfl;(first|(apply dT;omega)|(apply dF;omega)|rfl))|(apply r_nilK)|(apply k_V;rfl)|(apply k_P;rfl)|(apply k_nil)|(apply e_ret (vs:=[.d (.val _)]);rfl)|(apply w_seq)|(apply w_ops;((conv=>lhs;simp only [Nat.reduceAdd])<;>rfl))|(apply w_condF;rfl)|(apply e_thenN)|(apply e_thenX)|(apply e_blkE)|(apply w_exit)|(apply w_ret))
    exact retI e.symm
theorem mWide_good (t : T) (hc : t.cnt≤1000000) (hok : fitsT t 12=true→okT t) : Good Try.prog 68 [nodeA t] none (.i (if fitsT t 12=true then wideT t else 0)) none none:=by
  have hright:=right_good t hc
  have hw:=fun (h : fitsT t 12=true)=>mwide_good 1000000 t (encN t) 0 (NodeAt.self _) hc (Nat.le_refl _) (hok h)
  obtain ⟨k,a,b,c,d,mn,mx,subs⟩:=t
  have e0 : nodeA (.node k a b c d mn mx subs)=.agg [.i k,.d (.val (.int .u64 a)),.d (.val (.int .u64 b)),.d (.val (.int .u64 c)),.d (.val (.int .u64 d)),.i mn,.i mx,.d (.sl (encL subs) subs.length)]:=rfl
  rw [e0] at hright ⊢
  refine b68 (by simp) (by simp) (w_init ?_)
  unfold x68
  rcases Bool.eq_false_or_eq_true (fitsT (.node k a b c d mn mx subs) 12) with hR | hR
  case inr =>
    rw [hR] at hright
    repeat' (first|(apply r_mvV;rfl)|(apply r_callA;rfl;rfl;exact hright)|(apply r_ldL;rfl;rfl;rfl)|(apply r_not;rfl;rfl)|(apply r_box;((conv=>lhs;simp only [Nat.reduceAdd])<;>rfl);rfl;rfl;rfl)|(apply r_nilK)|(apply k_V;rfl)|(apply k_PL;rfl)|(apply k_nil)|(apply e_ret (vs:=[.d (.val _)]);rfl)|(apply w_seq)|(apply w_ops;((conv=>lhs;simp only [Nat.reduceAdd])<;>rfl))|(apply w_condT;rfl)|(apply e_thenN)|(apply e_thenR)|(apply w_ret))
    exact retI (by simp [hR])
  rw [hR] at hright
  have hw:=hw hR
  repeat' (first|(apply r_mvV;rfl)|(apply r_callA;rfl;rfl;exact hright)|(apply r_call (bs:=[.d (.ptr (encN (.node k a b c d mn mx subs)) 0)]) (us:=[1]);rfl;rfl;exact hw;rfl)|(apply r_ldL;rfl;rfl;rfl)|(apply r_not;rfl;rfl)|(apply r_box;((conv=>lhs;simp only [Nat.reduceAdd])<;>rfl);rfl;rfl;rfl)|(apply r_nilK)|(apply k_V;rfl)|(apply k_PL;rfl)|(apply k_nil)|(apply e_ret (vs:=[.d (.val _)]);rfl)|(apply w_seq)|(apply w_ops;((conv=>lhs;simp only [Nat.reduceAdd])<;>rfl))|(apply w_condF;rfl)|(apply e_thenN)|(apply w_ret)|(apply w_skip))
  exact retI (by simp [hR])
end Go.Sv
namespace Go.Sv
open Go Go.Proofs
mutual
def xT : T→T
  | .node k a b c d mn mx subs=>if k=5 then repT ((xL subs).headD (.node 1 0 0 0 0 0 0 [])) mn.toNat mx else if k=3 ∨ k=4 then .node k 0 0 0 0 0 0 (xL subs) else .node k a b c d mn mx subs
def xL : List T→List T
  | []=>[]
  | t :: l=>xT t :: xL l
end
theorem xL_len : ∀ l : List T,(xL l).length=l.length
  | []=>rfl
  | t :: l=>by rw [xL,List.length_cons,xL_len l,List.length_cons]
theorem xL_get : ∀ (l : List T) (i : Nat) (h : i < l.length) (h2 : i < (xL l).length),(xL l)[i]=xT l[i]
  | t :: l,0,_,_=>by simp [xL]
  | t :: l,i + 1,h,h2=>by
    simp only [xL,List.getElem_cons_succ]
    exact xL_get l i (by simpa using h) _
theorem xL_take (l : List T) (i : Nat) (h : i < l.length) : encL ((xL l).take (i + 1))=encL ((xL l).take i)++encN (xT l[i]):=by
  have h2 : i < (xL l).length:=by rw [xL_len];exact h
  rw [List.take_succ_eq_append_getElem h2,encL_app,xL_get l i h h2,encL,encL,List.append_nil]
theorem ret_catK {C : Heap} {Z : Frz} {live : Bool} {k : Int} {id m : Nat} {row : List AV} {L : List T} {us : List Nat} (hC : C id=some row) (hm : L.length=m) (hl : row.length=m * 8) (h0 : 0 < m) (hr : mapO (convC C (fun _=>false) 8) row=some (encL L,us)) : RetOK C Z (tupOf [.agg [.i k,.d (.val (.int .u64 0)),.d (.val (.int .u64 0)),.d (.val (.int .u64 0)),.d (.val (.int .u64 0)),.i 0,.i 0,.slL id 0 m 8]]) live (nodeA (.node k 0 0 0 0 0 0 L)) none none:=by
  refine .data _ ?_
  have h:=conv_row (ex:=fun _=>false) hC hl h0 rfl hr
  have hd : ∀ z : Value,(z=.int .i64 k ∨ z=.int .u64 0 ∨ z=.int .i64 0)→convC C (fun _=>false) 9 (.d (.val z))=some (.val z,[]):=by
    rintro z (rfl | rfl | rfl)<;>rfl
  simp only [tupOf,convT,convA,mapO,h,hd _ (.inl rfl),hd _ (.inr (.inl rfl)),hd _ (.inr (.inr rfl)),Option.bind_some,Option.map_some]
  subst hm
  rfl
set_option maxRecDepth 100000
set_option maxHeartbeats 4000000
attribute [local irreducible] W E R KP thenK blockK retK Good xwp aRun
theorem xrep_good (t : T) (mn mx : Int) (h : 0≤mn∧mn≤20) (h2 : mx=-1 ∨ (mn≤mx∧mx≤20)) : Good Try.prog 147 [nodeA t,.i mn,.i mx] none (nodeA (repT t mn.toNat mx)) none none:=by
  obtain ⟨lo,rfl⟩:=Int.eq_ofNat_of_zero_le h.1
  rcases h2 with rfl | h2
  · exact rep_neg t lo (by omega)
  · obtain ⟨hi,rfl⟩:=Int.eq_ofNat_of_zero_le (show 0≤mx by omega)
    exact rep_pos t lo hi (by omega) (by omega)
theorem xplain_good : ∀ (n : Nat) (t : T),t.cnt≤n→n≤1000000→okT t→Good Try.prog 115 [nodeA t] none (nodeA (xT t)) none none:=by
  intro n
  induction n with
  | zero=>intro t ht;have:=cnt_pos t;omega
  | succ n ih =>
  intro t ht hc hok
  obtain ⟨k,a,b,c,d,mn,mx,subs⟩:=t
  have hR:=okT_R hok
  have hoks : okL subs:=by simp only [okT] at hok;exact hok.2
  have hpl : plainT (.node k a b c d mn mx subs)=true:=by simp only [okT,okN] at hok;exact hok.1.2.2.2.2
  have ih' : ∀ i (h : i < subs.length),Good Try.prog 115 [nodeA subs[i]] none (nodeA (xT subs[i])) none none:=by
    intro i h
    refine ih _ ?_ (by omega) (okL_get subs i h hoks)
    have:=cntL_get subs i h
    simp only [T.cnt] at ht
    omega
  have hlen : subs.length≤1000000:=by
    have:=cntL_len subs
    simp only [T.cnt] at ht
    omega
  have e0 : nodeA (.node k a b c d mn mx subs)=.agg [.i k,.d (.val (.int .u64 a)),.d (.val (.int .u64 b)),.d (.val (.int .u64 c)),.d (.val (.int .u64 d)),.i mn,.i mx,.d (.sl (encL subs) subs.length)]:=rfl
  clear hok
  by_cases h5 : k=5
  · have hl0 : 0 < subs.length:=by
      simp [plainT,h5] at hpl
      omega
    have hs:=NodeAt.sub hl0
    have hi0:=ih' 0 hl0
    have ex : xT (.node k a b c d mn mx subs)=repT (xT (subs[0]'hl0)) mn.toNat mx:=by
      rw [xT,if_pos h5]
      match subs,hl0 with
      | u :: l,_=>rfl
    have hr:=xrep_good (xT (subs[0]'hl0)) mn mx (hR h5).1 (hR h5).2
    rw [ex,e0]
    clear ex
    generalize xT (subs[0]'hl0)=u at hi0 hr
    generalize repT u mn.toNat mx=v at hr
    have hna : [nodeA (subs[0]'hl0)].all AV.nrm=true:=by rw [List.all_cons,nodeA_nrm];rfl
    have hnb : [nodeA u,.i mn,.i mx].all AV.nrm=true:=by rw [List.all_cons,nodeA_nrm];rfl
    obtain ⟨k2,a2,b2,c2,d2,mn2,mx2,subs2⟩:=v
    refine b115 (by simp) (by simp) (w_init ?_)
    unfold x115
    repeat' (first|(apply r_mvV;rfl)|(apply r_faddL;rfl)|(apply r_l;apply ld_node';assumption;rfl)|(apply r_p;apply ix_sub0;rfl;rfl;exact hl0)|(apply r_callA (ags:=[nodeA (subs[0]'hl0)]);rfl;exact hna;exact hi0)|(apply r_callA (ags:=[nodeA u,.i mn,.i mx]);rfl;exact hnb;exact hr)|(apply r_ldL;rfl;rfl;rfl)|(apply r_eql;rfl;rfl;(first|(apply dT;omega)|(apply dF;omega)|rfl))|(apply r_alloc;((conv=>lhs;simp only [Nat.reduceAdd])<;>rfl);rfl)|(apply r_box;((conv=>lhs;simp only [Nat.reduceAdd])<;>rfl);rfl;rfl;rfl)|(apply r_stL;rfl;rfl;rfl;rfl;(first|rfl|(simp only [z_nil,z_add]<;>rfl));rfl;rfl)|(apply r_nilK)|(apply k_V;rfl)|(apply k_PL;rfl)|(apply k_nil)|(apply e_ret;rfl)|(apply w_seq)|(apply w_ops;((conv=>lhs;simp only [Nat.reduceAdd])<;>rfl))|(apply w_condT;rfl)|(apply e_thenN)|(apply w_block)|(apply e_thenR)|(apply e_blkR)|(apply w_ret))
    trace_state
    exact .data _ rfl
  by_cases h34 : k=3 ∨ k=4
  case neg =>
    have ex : xT (.node k a b c d mn mx subs)=.node k a b c d mn mx subs:=by rw [xT,if_neg h5,if_neg h34]
    rw [ex,e0]
    have h3 : k ≠ 3:=fun h=>h34 (.inl h)
    have h4 : k ≠ 4:=fun h=>h34 (.inr h)
    refine b115 (by simp) (by simp) (w_init ?_)
    unfold x115
    repeat' (first|(apply r_mvV;rfl)|(apply r_faddL;rfl)|(apply r_ldL;rfl;rfl;rfl)|(apply r_eql;rfl;rfl;(first|(apply dT;omega)|(apply dF;omega)|rfl))|(apply r_alloc;((conv=>lhs;simp only [Nat.reduceAdd])<;>rfl);rfl)|(apply r_box;((conv=>lhs;simp only [Nat.reduceAdd])<;>rfl);rfl;rfl;rfl)|(apply r_stL;rfl;rfl;rfl;rfl;(first|rfl|(simp only [z_nil,z_add]<;>rfl));rfl;rfl)|(apply r_nilK)|(apply k_V;rfl)|(apply k_PL;rfl)|(apply k_nil)|(apply e_ret;rfl)|(apply w_seq)|(apply w_ops;((conv=>lhs;simp only [Nat.reduceAdd])<;>rfl))|(apply w_condF;rfl)|(apply e_thenN)|(apply w_block)|(apply e_blkN)|(apply w_ret)|(apply w_skip))
    exact .data _ rfl
  have ex : xT (.node k a b c d mn mx subs)=.node k 0 0 0 0 0 0 (xL subs):=by rw [xT,if_neg h5,if_pos h34]
  rw [ex,e0]
  have hl0 : 0 < subs.length:=by
    rcases h34 with h | h<;>(simp [plainT,h] at hpl;omega)
  rcases h34 with h3 | h4
  · subst h3
    refine b115 (by simp) (by simp) (w_init ?_)
    unfold x115
    repeat' (first|(apply r_mvV;rfl)|(apply r_faddL;rfl)|(apply r_ldL;rfl;rfl;rfl)|(apply r_eql;rfl;rfl;(first|(apply dT;omega)|(apply dF;omega)|rfl))|(apply r_lenD;rfl)|(apply r_alloc;((conv=>lhs;simp only [Nat.reduceAdd])<;>rfl);rfl)|(apply r_box;((conv=>lhs;simp only [Nat.reduceAdd])<;>rfl);rfl;rfl;rfl)|(apply r_stL;rfl;rfl;rfl;rfl;(first|rfl|(simp only [z_nil,z_add]<;>rfl));rfl;rfl)|(apply r_p;rfl)|(apply r_nilK)|(apply k_V;rfl)|(apply k_PL;rfl)|(apply k_S;rfl)|(apply k_nil)|(apply w_seq)|(apply w_ops;((conv=>lhs;simp only [Nat.reduceAdd])<;>rfl))|(apply w_condT;rfl)|(apply w_condF;rfl)|(apply e_thenN)|(apply w_block)|(apply w_skip))
    apply w_loopI (S:=fun i : Nat=>⟨((((Fr.nil.put 2 (.ptrL 2 0)).put 3 (.ptrL 12 0)).put 27 (.d (.sl (encL subs) subs.length))).put 28 (.i subs.length)).put 29 (.i i),rowsOf [(2,zeroA zsN),(12,[.i 3,.d (.val (.int .u64 0)),.d (.val (.int .u64 0)),.d (.val (.int .u64 0)),.d (.val (.int .u64 0)),.i 0,.i 0,.slL 50 0 i 8]),(50,(encL ((xL subs).take i)).map AV.d)],Frz.buts 100 [2,12,50],100⟩) (m:=fun i=>subs.length - i) (I:=fun i=>i≤subs.length) (i0:=0)
    · exact Nat.zero_le _
    · refine wkG 50 1000000 true (by omega) (by omega) ?_ ?_ ?_ ?_
      · intro p hp
        simp only [List.mem_cons,List.not_mem_nil,or_false] at hp
        rcases hp with rfl | rfl | rfl
        · exact ⟨by omega,.inr ⟨rfl,_,rfl,.data rfl⟩⟩
        · exact ⟨by omega,.inr ⟨rfl,_,rfl,.cons (.d _) (.cons (.d _) (.cons (.d _) (.cons (.d _) (.cons (.d _) (.cons (.d _) (.cons (.d _) (.cons (.slN _ _ (by omega) rfl) .nil)))))))⟩⟩
        · exact ⟨by omega,.inl ⟨rfl,rfl,rfl⟩⟩
      · intro q hq;simp only [List.mem_cons,List.not_mem_nil,or_false] at hq;rcases hq with rfl | rfl | rfl<;>rfl
      · intro p hp
        simp only [List.mem_cons,List.not_mem_nil,or_false] at hp
        rcases hp with rfl | rfl | rfl<;>(intro _;simp)
      · repeat' (first|exact FWk.nil|(apply FWk.i;rfl;(first|rfl|omega|(simp;done)))|(apply FWk.ptr;rfl;rfl;rfl;omega;rfl)|(apply FWk.d;rfl;rfl))
    intro i K hi hK
    dsimp only
    rcases Nat.lt_or_ge i subs.length with hlt | hge
    · have hs:=NodeAt.sub hlt
      have hg:=ih' i hlt
      have htk:=xL_take subs i hlt
      have hrl : ((encL ((xL subs).take i)).map AV.d).length=i * 8:=by
        rw [List.length_map,encL_length,List.length_take,xL_len];omega
      have hna : [nodeA subs[i]].all AV.nrm=true:=by rw [List.all_cons,nodeA_nrm];rfl
      generalize xT subs[i]=u at hg htk
      generalize subs[i]=v at hs hg hna
      obtain ⟨k2,a2,b2,c2,d2,mn2,mx2,subs2⟩:=u
      obtain ⟨k3,a3,b3,c3,d3,mn3,mx3,subs3⟩:=v
      repeat' (first|(apply r_mvV;rfl)|(apply r_faddL;rfl)|(apply r_p;apply ix_sub;rfl;rfl;omega)|(apply r_l;apply ld_node';exact hs;rfl)|(apply r_callA (ags:=[nodeA (.node k3 a3 b3 c3 d3 mn3 mx3 subs3)]);rfl;exact hna;exact hg)|(apply r_ldL (v:=nodeA (.node k3 a3 b3 c3 d3 mn3 mx3 subs3));rfl;rfl;rfl)|(apply r_n (v:=.slL 109 0 1 8) (r:=[.i k2,.d (.val (.int .u64 a2)),.d (.val (.int .u64 b2)),.d (.val (.int .u64 c2)),.d (.val (.int .u64 d2)),.i mn2,.i mx2,.d (.sl (encL subs2) subs2.length)]);rfl)|(apply r_appN (b:=50) (c:=109) (id:=110) (m:=i) (j:=1) (r:=(encL ((xL subs).take i)).map AV.d) (src:=[.i k2,.d (.val (.int .u64 a2)),.d (.val (.int .u64 b2)),.d (.val (.int .u64 c2)),.d (.val (.int .u64 d2)),.i mn2,.i mx2,.d (.sl (encL subs2) subs2.length)]);rfl;rfl;rfl;rfl;exact hrl;rfl;rfl;rfl;rfl;omega)|(apply r_ldL;rfl;rfl;rfl)|(apply r_lss;rfl;rfl;(first|(apply dT;omega)|(apply dF;omega)|rfl))|(apply r_add;rfl;rfl;rfl;omega)|(apply r_alloc;((conv=>lhs;simp only [Nat.reduceAdd])<;>rfl);rfl)|(apply r_stL;rfl;rfl;rfl;rfl;(first|rfl|(simp only [z_nil,z_add]<;>rfl));rfl;rfl)|(apply r_nilK)|(apply k_V;rfl)|(apply k_PL;rfl)|(apply k_S;rfl)|(apply k_nil)|(apply w_seq)|(apply w_ops;((conv=>lhs;simp only [Nat.reduceAdd])<;>rfl))|(apply w_condT;rfl)|(apply e_thenN)|(apply w_block)|(apply e_blkN)|(apply w_skip))
      trace_state
      apply e_thenK
      apply hK (i + 1)
      · omega
      · omega
      · refine wkG 50 110 false (by omega) (by omega) ?_ ?_ ?_ ?_
        · intro p hp
          simp only [List.mem_cons,List.not_mem_nil,or_false] at hp
          rcases hp with rfl | rfl | rfl
          · exact ⟨by omega,.inr ⟨rfl,_,rfl,.data rfl⟩⟩
          · exact ⟨by omega,.inr ⟨rfl,_,rfl,.cons (.d _) (.cons (.d _) (.cons (.d _) (.cons (.d _) (.cons (.d _) (.cons (.d _) (.cons (.d _) (.cons (.slL _ _ _ _ _ rfl (by omega) rfl) .nil)))))))⟩⟩
          · refine ⟨by omega,.inr ⟨rfl,(encL ((xL subs).take (i + 1))).map AV.d,?_,.data (by rw [List.all_map];simp [AV.isD])⟩⟩
            rw [htk,List.map_append];rfl
        · intro q hq;simp only [List.mem_cons,List.not_mem_nil,or_false] at hq;rcases hq with rfl | rfl | rfl<;>rfl
        · intro p hp
          simp only [List.mem_cons,List.not_mem_nil,or_false] at hp
          rcases hp with rfl | rfl | rfl<;>(intro _;simp)
        · repeat' (first|exact FWk.nil|(apply FWk.i;rfl;(first|rfl|omega|(simp;done)))|(apply FWk.ptr;rfl;rfl;rfl;omega;rfl)|(apply FWk.d;rfl;rfl))
    · have ei : i=subs.length:=by omega
      subst ei
      repeat' (first|(apply r_ldL (v:=.agg [.i 3,.d (.val (.int .u64 0)),.d (.val (.int .u64 0)),.d (.val (.int .u64 0)),.d (.val (.int .u64 0)),.i 0,.i 0,.slL 50 0 subs.length 8]);rfl;rfl;rfl)|(apply r_lss;rfl;rfl;(first|(apply dT;omega)|(apply dF;omega)|rfl))|(apply r_stL;rfl;rfl;rfl;rfl;(first|rfl|(simp only [z_nil,z_add]<;>rfl));rfl;rfl)|(apply r_nilK)|(apply k_V;rfl)|(apply k_PL;rfl)|(apply k_S;rfl)|(apply k_nil)|(apply e_ret;rfl)|(apply w_seq)|(apply w_ops;((conv=>lhs;simp only [Nat.reduceAdd])<;>rfl))|(apply w_condF;rfl)|(apply e_thenN)|(apply e_thenR)|(apply e_thenX)|(apply e_blkR)|(apply e_blkE)|(apply w_exit)|(apply w_ret))
      refine ret_catK (id:=50) (row:=(encL ((xL subs).take subs.length)).map AV.d) (us:=[]) rfl (xL_len _) (by rw [List.length_map,encL_length,List.length_take,xL_len];omega) hl0 ?_
      rw [List.take_of_length_le (by rw [xL_len];omega)]
      exact mapO_encL _
  · subst h4
    refine b115 (by simp) (by simp) (w_init ?_)
    unfold x115
    repeat' (first|(apply r_mvV;rfl)|(apply r_faddL;rfl)|(apply r_ldL;rfl;rfl;rfl)|(apply r_eql;rfl;rfl;(first|(apply dT;omega)|(apply dF;omega)|rfl))|(apply r_lenD;rfl)|(apply r_alloc;((conv=>lhs;simp only [Nat.reduceAdd])<;>rfl);rfl)|(apply r_box;((conv=>lhs;simp only [Nat.reduceAdd])<;>rfl);rfl;rfl;rfl)|(apply r_stL;rfl;rfl;rfl;rfl;(first|rfl|(simp only [z_nil,z_add]<;>rfl));rfl;rfl)|(apply r_p;rfl)|(apply r_nilK)|(apply k_V;rfl)|(apply k_PL;rfl)|(apply k_S;rfl)|(apply k_nil)|(apply w_seq)|(apply w_ops;((conv=>lhs;simp only [Nat.reduceAdd])<;>rfl))|(apply w_condT;rfl)|(apply w_condF;rfl)|(apply e_thenN)|(apply w_block))
    apply w_loopI (S:=fun i : Nat=>⟨((((Fr.nil.put 2 (.ptrL 2 0)).put 3 (.ptrL 14 0)).put 27 (.d (.sl (encL subs) subs.length))).put 28 (.i subs.length)).put 29 (.i i),rowsOf [(2,zeroA zsN),(14,[.i 4,.d (.val (.int .u64 0)),.d (.val (.int .u64 0)),.d (.val (.int .u64 0)),.d (.val (.int .u64 0)),.i 0,.i 0,.slL 50 0 i 8]),(50,(encL ((xL subs).take i)).map AV.d)],Frz.buts 100 [2,14,50],100⟩) (m:=fun i=>subs.length - i) (I:=fun i=>i≤subs.length) (i0:=0)
    · exact Nat.zero_le _
    · refine wkG 50 1000000 true (by omega) (by omega) ?_ ?_ ?_ ?_
      · intro p hp
        simp only [List.mem_cons,List.not_mem_nil,or_false] at hp
        rcases hp with rfl | rfl | rfl
        · exact ⟨by omega,.inr ⟨rfl,_,rfl,.data rfl⟩⟩
        · exact ⟨by omega,.inr ⟨rfl,_,rfl,.cons (.d _) (.cons (.d _) (.cons (.d _) (.cons (.d _) (.cons (.d _) (.cons (.d _) (.cons (.d _) (.cons (.slN _ _ (by omega) rfl) .nil)))))))⟩⟩
        · exact ⟨by omega,.inl ⟨rfl,rfl,rfl⟩⟩
      · intro q hq;simp only [List.mem_cons,List.not_mem_nil,or_false] at hq;rcases hq with rfl | rfl | rfl<;>rfl
      · intro p hp
        simp only [List.mem_cons,List.not_mem_nil,or_false] at hp
        rcases hp with rfl | rfl | rfl<;>(intro _;simp)
      · repeat' (first|exact FWk.nil|(apply FWk.i;rfl;(first|rfl|omega|(simp;done)))|(apply FWk.ptr;rfl;rfl;rfl;omega;rfl)|(apply FWk.d;rfl;rfl))
    intro i K hi hK
    dsimp only
    rcases Nat.lt_or_ge i subs.length with hlt | hge
    · have hs:=NodeAt.sub hlt
      have hg:=ih' i hlt
      have htk:=xL_take subs i hlt
      have hrl : ((encL ((xL subs).take i)).map AV.d).length=i * 8:=by
        rw [List.length_map,encL_length,List.length_take,xL_len];omega
      have hna : [nodeA subs[i]].all AV.nrm=true:=by rw [List.all_cons,nodeA_nrm];rfl
      generalize xT subs[i]=u at hg htk
      generalize subs[i]=v at hs hg hna
      obtain ⟨k2,a2,b2,c2,d2,mn2,mx2,subs2⟩:=u
      obtain ⟨k3,a3,b3,c3,d3,mn3,mx3,subs3⟩:=v
      repeat' (first|(apply r_mvV;rfl)|(apply r_faddL;rfl)|(apply r_p;apply ix_sub;rfl;rfl;omega)|(apply r_l;apply ld_node';exact hs;rfl)|(apply r_callA (ags:=[nodeA (.node k3 a3 b3 c3 d3 mn3 mx3 subs3)]);rfl;exact hna;exact hg)|(apply r_ldL (v:=nodeA (.node k3 a3 b3 c3 d3 mn3 mx3 subs3));rfl;rfl;rfl)|(apply r_n (v:=.slL 109 0 1 8) (r:=[.i k2,.d (.val (.int .u64 a2)),.d (.val (.int .u64 b2)),.d (.val (.int .u64 c2)),.d (.val (.int .u64 d2)),.i mn2,.i mx2,.d (.sl (encL subs2) subs2.length)]);rfl)|(apply r_appN (b:=50) (c:=109) (id:=110) (m:=i) (j:=1) (r:=(encL ((xL subs).take i)).map AV.d) (src:=[.i k2,.d (.val (.int .u64 a2)),.d (.val (.int .u64 b2)),.d (.val (.int .u64 c2)),.d (.val (.int .u64 d2)),.i mn2,.i mx2,.d (.sl (encL subs2) subs2.length)]);rfl;rfl;rfl;rfl;exact hrl;rfl;rfl;rfl;rfl;omega)|(apply r_ldL;rfl;rfl;rfl)|(apply r_lss;rfl;rfl;(first|(apply dT;omega)|(apply dF;omega)|rfl))|(apply r_add;rfl;rfl;rfl;omega)|(apply r_alloc;((conv=>lhs;simp only [Nat.reduceAdd])<;>rfl);rfl)|(apply r_stL;rfl;rfl;rfl;rfl;(first|rfl|(simp only [z_nil,z_add]<;>rfl));rfl;rfl)|(apply r_nilK)|(apply k_V;rfl)|(apply k_PL;rfl)|(apply k_S;rfl)|(apply k_nil)|(apply w_seq)|(apply w_ops;((conv=>lhs;simp only [Nat.reduceAdd])<;>rfl))|(apply w_condT;rfl)|(apply e_thenN)|(apply w_block)|(apply e_blkN)|(apply w_skip))
      trace_state
      apply e_thenK
      apply hK (i + 1)
      · omega
      · omega
      · refine wkG 50 110 false (by omega) (by omega) ?_ ?_ ?_ ?_
        · intro p hp
          simp only [List.mem_cons,List.not_mem_nil,or_false] at hp
          rcases hp with rfl | rfl | rfl
          · exact ⟨by omega,.inr ⟨rfl,_,rfl,.data rfl⟩⟩
          · exact ⟨by omega,.inr ⟨rfl,_,rfl,.cons (.d _) (.cons (.d _) (.cons (.d _) (.cons (.d _) (.cons (.d _) (.cons (.d _) (.cons (.d _) (.cons (.slL _ _ _ _ _ rfl (by omega) rfl) .nil)))))))⟩⟩
          · refine ⟨by omega,.inr ⟨rfl,(encL ((xL subs).take (i + 1))).map AV.d,?_,.data (by rw [List.all_map];simp [AV.isD])⟩⟩
            rw [htk,List.map_append];rfl
        · intro q hq;simp only [List.mem_cons,List.not_mem_nil,or_false] at hq;rcases hq with rfl | rfl | rfl<;>rfl
        · intro p hp
          simp only [List.mem_cons,List.not_mem_nil,or_false] at hp
          rcases hp with rfl | rfl | rfl<;>(intro _;simp)
        · repeat' (first|exact FWk.nil|(apply FWk.i;rfl;(first|rfl|omega|(simp;done)))|(apply FWk.ptr;rfl;rfl;rfl;omega;rfl)|(apply FWk.d;rfl;rfl))
    · have ei : i=subs.length:=by omega
      subst ei
      repeat' (first|(apply r_ldL (v:=.agg [.i 4,.d (.val (.int .u64 0)),.d (.val (.int .u64 0)),.d (.val (.int .u64 0)),.d (.val (.int .u64 0)),.i 0,.i 0,.slL 50 0 subs.length 8]);rfl;rfl;rfl)|(apply r_lss;rfl;rfl;(first|(apply dT;omega)|(apply dF;omega)|rfl))|(apply r_stL;rfl;rfl;rfl;rfl;(first|rfl|(simp only [z_nil,z_add]<;>rfl));rfl;rfl)|(apply r_nilK)|(apply k_V;rfl)|(apply k_PL;rfl)|(apply k_S;rfl)|(apply k_nil)|(apply e_ret;rfl)|(apply w_seq)|(apply w_ops;((conv=>lhs;simp only [Nat.reduceAdd])<;>rfl))|(apply w_condF;rfl)|(apply e_thenN)|(apply e_thenR)|(apply e_thenX)|(apply e_blkR)|(apply e_blkE)|(apply w_exit)|(apply w_ret))
      refine ret_catK (id:=50) (row:=(encL ((xL subs).take subs.length)).map AV.d) (us:=[]) rfl (xL_len _) (by rw [List.length_map,encL_length,List.length_take,xL_len];omega) hl0 ?_
      rw [List.take_of_length_le (by rw [xL_len];omega)]
      exact mapO_encL _
end Go.Sv
namespace Go.Sv
open Go Go.Proofs
section
variable {P : Program} {Q : Cont} {fr : Fr} {C : Heap} {Z : Frz} {nx : Nat} {base n d0 : Nat} {l : List (Nat × XO)} {kp : Option (List Nat)} {x y : X}
end
set_option maxRecDepth 100000
set_option maxHeartbeats 4000000
attribute [local irreducible] W E R KP thenK blockK retK Good xwp aRun
end Go.Sv
namespace Go.Sv
open Go Go.Proofs
set_option maxRecDepth 100000
set_option maxHeartbeats 4000000
attribute [local irreducible] W E R KP thenK blockK retK Good xwp aRun
def bareT : T→Bool
  | .node k a b c d mn mx subs =>
    if k=1 then isZero a b c d && (mn == 0 && mx == 0) && subs.length == 0
    else if k=2 then mn == 0 && mx == 0 && subs.length == 0
    else if k=3 ∨ k=4 then isZero a b c d && (mn == 0 && mx == 0) && decide (2≤subs.length)
    else if k=5 then isZero a b c d && (mn == 0 && mx == -1) && subs.length == 1
    else false
mutual
def isP : T→Bool
  | .node k a b c d mn mx subs=>isPL subs && bareT (.node k a b c d mn mx subs)
def isPL : List T→Bool
  | []=>true
  | t :: l=>isP t && isPL l
end
end Go.Sv
namespace Go.Sv
open Go Go.Proofs
set_option maxRecDepth 100000
theorem awake13_ev : evF tabC (spP 100) 100 40 56 [] none=some (.b true,none,none):=by kernel_rfl
theorem awake13_good : Good Try.prog 56 [] none (.b true) none none:=evF_sound tabC_ok (spP_ok 100) 40 56 [] none _ _ _ awake13_ev
end Go.Sv
namespace Go.Sv
open Go Go.Proofs
set_option maxRecDepth 100000
set_option maxHeartbeats 4000000
attribute [local irreducible] W E R KP thenK blockK retK Good xwp aRun
end Go.Sv
namespace Go.Sv
open Go Go.Proofs
section
variable {P : Program} {Q : Cont} {fr : Fr} {C : Heap} {Z : Frz} {nx : Nat} {base n d : Nat} {l : List (Nat × XO)} {kp : Option (List Nat)} {x i y s : X} {j c : Nat}
theorem r_rem2 {w : Int} (hx : x.ev fr=.d (.val (.int .u64 w))) (hy : y.ev fr=.d (.val (.int .u64 2))) (hw : 0≤w) (k : R P l base kp Q nx (fr.put d (.d (.val (.int .u64 (w % 2))))) C Z) : R P ((n,⟨some d,none,.arith .rem x y⟩) :: l) base kp Q nx fr C Z:=by
  refine r_p ?_ k
  have e : Int.tmod w 2=w % 2:=Int.tmod_eq_emod_of_nonneg hw
  simp only [xp,hx,hy,arith]
  exact congrArg (fun z=>some (AV.d (DV.val (Value.int .u64 z)))) e
theorem r_ixPL {m b off : Nat} {kd : IntKind} (hx : x.ev fr=.ptrL b off) (hi : i.ev fr=.d (.val (.int kd (j : Nat)))) (hj : j < m) (k : R P l base kp Q nx (fr.put d (.ptrL b (off + j))) C Z) : R P ((n,⟨some d,none,.idxP m 1 x i⟩) :: l) base kp Q nx fr C Z:=by
  refine r_p ?_ k
  simp [xp,hx,hi,intIn,hj]
theorem r_ldWL {b : Nat} {w0 w1 w2 w3 : Int} (hx : x.ev fr=.ptrL b (0 + j)) (hr : C b=some [.d (.val (.int .u64 w0)),.d (.val (.int .u64 w1)),.d (.val (.int .u64 w2)),.d (.val (.int .u64 w3))]) (hj : j < 4) (k : R P l base kp Q nx (fr.put d (.d (.val (.int .u64 ([w0,w1,w2,w3].getD j 0))))) C Z) : R P ((n,⟨some d,none,.load none x⟩) :: l) base kp Q nx fr C Z:=by
  refine r_l ?_ k
  simp only [xl,hx,rowOf,hr,Option.map_some,Option.bind_some,subA,Nat.zero_add]
  match j,hj with
  | 0,_=>rfl
  | 1,_=>rfl
  | 2,_=>rfl
  | 3,_=>rfl
end
set_option maxRecDepth 100000
set_option maxHeartbeats 4000000
attribute [local irreducible] W E R KP thenK blockK retK Good xwp aRun
def setA (a b c d : Int) : AV:=.agg [.d (.val (.int .u64 a)),.d (.val (.int .u64 b)),.d (.val (.int .u64 c)),.d (.val (.int .u64 d))]
end Go.Sv
namespace Go.Sv
open Go Go.Proofs
end Go.Sv
namespace Go.Sv
open Go

def word (s : ByteArray) (i j : Nat) : List Nat:=(List.range' i (j - i)).map (byteN s)
theorem word_len (s : ByteArray) (i j : Nat) : (word s i j).length=j - i:=by simp [word]
theorem word_app (s : ByteArray) {i j k : Nat} (h : i≤j) (h2 : j≤k) : word s i j++word s j k=word s i k:=by
  unfold word
  rw [← List.map_append]
  congr 1
  have e : j=i + (j - i):=by omega
  conv=>lhs;rhs;arg 1;rw [e]
  rw [List.range'_append_1]
  congr 1;omega
theorem word_split (s : ByteArray) {i k : Nat} (h : i≤k) {u v : List Nat} (e : word s i k=u++v) : i + u.length≤k∧u=word s i (i + u.length)∧v=word s (i + u.length) k:=by
  have hl:=congrArg List.length e
  rw [word_len,List.length_append] at hl
  have h1 : i + u.length≤k:=by omega
  rw [← word_app s (Nat.le_add_right i u.length) h1] at e
  have:=List.append_inj e (by rw [word_len];omega)
  exact ⟨h1,this.1.symm,this.2.symm⟩

def powL (P : List Nat→Prop) : Nat→List Nat→Prop
  | 0,w=>w=[]
  | n + 1,w=>∃ u v,w=u++v∧P u∧powL P n v

mutual
def L : T→List Nat→Prop
  | .node k a b c d mn mx subs,w =>
    if k=1 then w=[]
    else if k=2 then ∃ x,w=[x]∧inG a b c d x=true
    else if k=3 then catL subs w
    else if k=4 then altL subs w
    else if k=5 then ∃ r : Nat,mn≤r∧(mx < 0 ∨ (r : Int)≤mx)∧powL (fstL subs) r w
    else False
def catL : List T→List Nat→Prop
  | [],w=>w=[]
  | t :: l,w=>∃ u v,w=u++v∧L t u∧catL l v
def altL : List T→List Nat→Prop
  | [],_=>False
  | t :: l,w=>L t w ∨ altL l w
def fstL : List T→List Nat→Prop
  | [],w=>w=[]
  | t :: _,w=>L t w
end

def At (p : List Bool) (j : Nat) : Prop:=p.getD j false=true
theorem At.lt {p : List Bool} {j : Nat} (h : At p j) : j < p.length:=by
  unfold At at h
  rcases Nat.lt_or_ge j p.length with h' | h'
  · exact h'
  · rw [List.getD_eq_getElem?_getD,List.getElem?_eq_none h'] at h;simp at h
theorem at_rep (m j : Nat) : ¬ At (List.replicate m false) j:=by
  intro h
  have:=h.lt
  unfold At at h
  rw [List.getD_eq_getElem?_getD,List.getElem?_eq_getElem this] at h
  simp at h
theorem at_set {p : List Bool} {i : Nat} {v : Bool} (j : Nat) (hi : i < p.length) : At (p.set i v) j↔(j=i∧v=true) ∨ (j ≠ i∧At p j):=by
  unfold At
  rw [List.getD_eq_getElem?_getD,List.getD_eq_getElem?_getD,List.getElem?_set]
  by_cases h : i=j
  · subst h;simp [hi]
  · simp [h,Ne.symm h]
theorem at_ext {p q : List Bool} (hl : p.length=q.length) (h : ∀ j,At p j↔At q j) : p=q:=by
  refine List.ext_getElem hl fun j h1 h2=>?_
  have:=h j
  unfold At at this
  rw [List.getD_eq_getElem?_getD,List.getD_eq_getElem?_getD,List.getElem?_eq_getElem h1,List.getElem?_eq_getElem h2] at this
  simp only [Option.getD_some] at this
  exact Bool.eq_iff_iff.2 this

def Goes (s : ByteArray) (f : List Bool→List Bool) (P : List Nat→Prop) : Prop :=
  ∀ p,p.length=s.size + 1→(f p).length=s.size + 1∧∀ j,At (f p) j↔∃ i,i≤j∧At p i∧j≤s.size∧P (word s i j)

def Sub (p q : List Bool) : Prop:=∀ j,At p j→At q j
theorem Goes.mono {s : ByteArray} {f : List Bool→List Bool} {P : List Nat→Prop} (hf : Goes s f P) {p q : List Bool} (hp : p.length=s.size + 1) (hq : q.length=s.size + 1) (h : Sub p q) : Sub (f p) (f q):=by
  intro j hj
  obtain ⟨i,h1,h2,h3,h4⟩:=((hf p hp).2 j).1 hj
  exact ((hf q hq).2 j).2 ⟨i,h1,h i h2,h3,h4⟩
theorem Goes.step {s : ByteArray} {f : List Bool→List Bool} {P : List Nat→Prop} (hf : Goes s f P) {p q r : List Bool} (hp : p.length=s.size + 1) (hq : q.length=s.size + 1) (hr : r.length=s.size + 1) (h : ∀ j,At r j→At p j ∨ At q j) : ∀ j,At (f r) j→At (f p) j ∨ At (f q) j:=by
  intro j hj
  obtain ⟨i,h1,h2,h3,h4⟩:=((hf r hr).2 j).1 hj
  rcases h i h2 with h | h
  · exact .inl (((hf p hp).2 j).2 ⟨i,h1,h,h3,h4⟩)
  · exact .inr (((hf q hq).2 j).2 ⟨i,h1,h,h3,h4⟩)
theorem Goes.seq {s : ByteArray} {f g : List Bool→List Bool} {P Q : List Nat→Prop} (hf : Goes s f P) (hg : Goes s g Q) : Goes s (fun p=>g (f p)) (fun w=>∃ u v,w=u++v∧P u∧Q v):=by
  intro p hp
  obtain ⟨h1,h2⟩:=hf p hp
  obtain ⟨h3,h4⟩:=hg (f p) h1
  refine ⟨h3,fun j=>?_⟩
  rw [h4 j]
  constructor
  · rintro ⟨i,g1,g2,g3,g4⟩
    obtain ⟨i0,k1,k2,k3,k4⟩:=(h2 i).1 g2
    exact ⟨i0,by omega,k2,g3,_,_,(word_app s k1 g1).symm,k4,g4⟩
  · rintro ⟨i,g1,g2,g3,u,v,e,g4,g5⟩
    obtain ⟨k1,k2,k3⟩:=word_split s g1 e
    exact ⟨i + u.length,k1,(h2 _).2 ⟨i,by omega,g2,by omega,k2 ▸ g4⟩,g3,k3 ▸ g5⟩
theorem Goes.congr {s : ByteArray} {f : List Bool→List Bool} {P Q : List Nat→Prop} (hf : Goes s f P) (h : ∀ w,P w↔Q w) : Goes s f Q:=by
  intro p hp
  refine ⟨(hf p hp).1,fun j=>?_⟩
  rw [(hf p hp).2 j]
  simp only [h]
theorem plainT_kind {k a b c d mn mx : Int} {subs : List T} (h : plainT (.node k a b c d mn mx subs)=true) : (k=1 ∨ k=2 ∨ k=3 ∨ k=4 ∨ k=5)∧(k=5→0≤mn∧(mx < 0 ∨ mn≤mx)):=by
  by_cases h5 : k=5
  · subst h5
    simp [plainT] at h
    omega
  · by_cases h1 : k=1 ∨ k=2 ∨ k=3 ∨ k=4
    · omega
    · have h2 : ¬ k=1:=by omega
      have h3 : ¬ k=2:=by omega
      have h4 : ¬ (k=3 ∨ k=4):=by omega
      simp [plainT,h2,h3,h4,h5] at h
end Go.Sv
namespace Go.Sv
open Go Go.Proofs
set_option maxRecDepth 100000
set_option maxHeartbeats 4000000
attribute [local irreducible] W E R KP thenK blockK retK Good xwp aRun
end Go.Sv
namespace Go.Sv
open Go Go.Proofs
section
variable {P : Program} {Q : Cont} {fr : Fr} {C : Heap} {Z Z' : Frz} {nx : Nat} {base n d : Nat} {l : List (Nat × XO)} {kp : Option (List Nat)} {x i y s : X}
theorem retL1 {live : Bool} {b m : Nat} {p : List Int} (hC : C b=some ((encI p).map AV.d)) (hm : p.length=m) : RetOK C Z (tupOf [.slL b 0 m 1]) live (.d (.sl (encI p) m)) none none:=by
  refine .data _ ?_
  simp only [tupOf,convT,convA,conv_slI (ex:=fun _=>false) rfl hC hm,Option.map_some]
end
set_option maxRecDepth 100000
set_option maxHeartbeats 4000000
attribute [local irreducible] W E R KP thenK blockK retK Good xwp aRun
end Go.Sv
namespace Go.Sv
open Go Go.Proofs
set_option linter.unusedVariables false
set_option maxRecDepth 100000

theorem cells_27 : Try.prog.cellsOf 27=8:=by kernel_rfl
theorem cells_3 : Try.prog.cellsOf 3=1:=by kernel_rfl
theorem cells_24 : Try.prog.cellsOf 24=4:=by kernel_rfl
theorem cells_22 : Try.prog.cellsOf 22=1:=by kernel_rfl
theorem cells_25 : Try.prog.cellsOf 25=1:=by kernel_rfl
def inW (k : Int) : Prop:=-9223372036854775808≤k∧k < 9223372036854775808
mutual
def inT : T→Prop
  | .node k a b c d mn mx subs=>inW k∧okW a∧okW b∧okW c∧okW d∧inW mn∧inW mx∧inL subs
def inL : List T→Prop
  | []=>True
  | t :: l=>inT t∧inL l
end
theorem inL_of : ∀ {l : List T},(∀ t ∈ l,inT t)→inL l
  | [],_=>trivial
  | t :: l,h=>⟨h t (by simp),inL_of fun u hu=>h u (by simp [hu])⟩

section
variable {H : Type} {enc : TypeId × Value→H} {W : World} {sp : Nat→Bool}
theorem wf_i64 {n : Int} (h : (Lit.int .i64 n).wf=true) : inW n:=by
  simp [Lit.wf,IntKind.min,IntKind.max,IntKind.signed,IntKind.bits] at h
  unfold inW;omega
theorem wf_u64 {n : Int} (h : (Lit.int .u64 n).wf=true) : okW n:=by
  simp [Lit.wf,IntKind.min,IntKind.max,IntKind.signed,IntKind.bits] at h
  unfold okW;omega
def NoA : Nat→Prop:=fun _=>False
def RDs (W : World) (vs : List Value) (ds : List DV) : Prop:=vs.length=ds.length∧∀ (j : Nat) (v : Value) (d : DV),vs[j]?=some v→ds[j]?=some d→RD W NoA v d
theorem RDs.nil : RDs W [] []:=⟨rfl,fun j v d h=>by simp at h⟩
theorem RDs.cons {v : Value} {d : DV} {vs : List Value} {ds : List DV} (h : RD W NoA v d) (hs : RDs W vs ds) : RDs W (v :: vs) (d :: ds):=by
  refine ⟨by simp [hs.1],fun j v' d' h1 h2=>?_⟩
  cases j with
  | zero=>simp at h1 h2;subst h1;subst h2;exact h
  | succ j=>exact hs.2 j v' d' (by simpa using h1) (by simpa using h2)

theorem cells_at {a : Addr} {n : Nat} {cs : List Value} (h : W.cells? 0 a n=some cs) : cs.length=n∧∀ j,j < n→cs[j]?=W.cell? (a.add j):=by
  unfold World.cells? at h
  rw [if_pos (Nat.zero_le _)] at h
  refine ⟨by simpa using mapM_some_length h,fun j hj=>?_⟩
  exact (mapM_some_get h j j (by simp [hj])).symm
theorem cell_spot {a : Addr} {v : Value} (h : W.cell? a=some v) : a=⟨a.block,a.off,none⟩:=by
  obtain ⟨b,o,s⟩:=a
  unfold World.cell? at h
  split at h
  · split at h
    · cases h
    · rename_i hs
      cases s with
      | none=>rfl
      | some _=>simp at hs
  · cases h

theorem addr_add2 (b o m k : Nat) : (((⟨b,o,none⟩ : Addr).add m).add k)=⟨b,o + (m + k),none⟩:=by
  unfold Addr.add
  split<;>split<;>simp_all<;>omega
theorem elems_open {sz : Nat} (hsz : 0 < sz) {a : Addr} {α : Type} {P : α→Prop} {en : α→List DV} (hen : ∀ x,(en x).length=sz) : ∀ (len : Nat),(∀ i,i < len→∃ cs x,W.cells? 0 (a.add (i * sz)) sz=some cs∧P x∧RDs W cs (en x)) →
    ∃ l : List α,l.length=len∧(∀ x ∈ l,P x)∧∀ j,j < len * sz→∃ v d,W.cell? ⟨a.block,a.off + j,none⟩=some v∧(l.flatMap en)[j]?=some d∧RD W NoA v d
  | 0,_=>⟨[],rfl,by simp,fun j hj=>by omega⟩
  | len + 1,h=>by
    obtain ⟨l,h1,h2,h3⟩:=elems_open hsz hen len fun i hi=>h i (by omega)
    obtain ⟨cs,x,h4,h5,h6⟩:=h len (by omega)
    obtain ⟨h7,h8⟩:=cells_at h4
    have hspot : a=⟨a.block,a.off,none⟩:=by
      obtain ⟨cs0,x0,g4,_,_⟩:=h 0 (by omega)
      obtain ⟨g7,g8⟩:=cells_at g4
      have g9:=g8 0 hsz
      rw [List.getElem?_eq_getElem (by omega)] at g9
      have:=cell_spot g9.symm
      simpa [Addr.add] using this
    have hfl : ∀ m : List α,(m.flatMap en).length=m.length * sz:=by
      intro m
      induction m with
      | nil=>simp
      | cons y m ih=>simp [ih,hen,Nat.succ_mul];omega
    refine ⟨l++[x],by simp [h1],fun y hy=>?_,fun j hj=>?_⟩
    · rcases List.mem_append.1 hy with hy | hy
      · exact h2 y hy
      · simp at hy;subst hy;exact h5
    · rcases Nat.lt_or_ge j (len * sz) with hlt | hge
      · obtain ⟨v,d,g1,g2,g3⟩:=h3 j hlt
        refine ⟨v,d,g1,?_,g3⟩
        rw [List.flatMap_append,List.getElem?_append_left (by rw [hfl,h1];exact hlt)]
        exact g2
      · have hj2 : j - len * sz < sz:=by rw [Nat.succ_mul] at hj;omega
        have g1:=h8 (j - len * sz) hj2
        rw [List.getElem?_eq_getElem (by omega)] at g1
        have hl6:=h6.1
        have hx : (en x)[j - len * sz]?=some (en x)[j - len * sz]:=List.getElem?_eq_getElem (by rw [hen];exact hj2)
        refine ⟨cs[j - len * sz],(en x)[j - len * sz],?_,?_,h6.2 _ _ _ (List.getElem?_eq_getElem (by omega)) hx⟩
        · rw [g1]
          congr 1
          have e : len * sz + (j - len * sz)=j:=by omega
          have h9:=addr_add2 a.block a.off (len * sz) (j - len * sz)
          rw [← hspot,e] at h9
          exact h9.symm
        · rw [List.flatMap_append,List.getElem?_append_right (by rw [hfl,h1];exact hge),hfl,h1]
          simpa using hx
theorem encL_flat : ∀ l : List T,encL l=l.flatMap encN
  | []=>rfl
  | t :: l=>by simp [encL,encL_flat l]

theorem len8 {cs : List Value} (h : cs.length=8) : ∃ a b c d e f g i,cs=[a,b,c,d,e,f,g,i]:=by
  match cs,h with
  | [a,b,c,d,e,f,g,i],_=>exact ⟨a,b,c,d,e,f,g,i,rfl⟩

theorem node_open : ∀ (fuel : Nat) (cs : List Value) (x : DataW H × List MemPlace),DataW.trod enc Try.prog W 0 sp true fuel 27 cs=some x→∃ t : T,inT t∧RDs W cs (encN t):=by
  intro fuel
  induction fuel using Nat.strongRecOn with
  | ind fuel ih =>
  intro cs x h
  obtain ⟨xs,n,rfl,_,hl,hxl,hf⟩:=DataW.trod_struct Try.underlying27 h
  rw [cells_27] at hl
  obtain ⟨c0,c1,c2,c3,c4,c5,c6,c7,rfl⟩:=len8 hl
  have hx : ∀ i,i < 5→∃ y,xs[i]?=some y:=fun i hi=>⟨_,List.getElem?_eq_getElem (by rw [hxl];exact hi)⟩
  obtain ⟨y0,e0⟩:=hx 0 (by omega)
  obtain ⟨y1,e1⟩:=hx 1 (by omega)
  obtain ⟨y2,e2⟩:=hx 2 (by omega)
  obtain ⟨y3,e3⟩:=hx 3 (by omega)
  obtain ⟨y4,e4⟩:=hx 4 (by omega)
  have f0:=hf 0 _ rfl
  have f1:=hf 1 _ rfl
  have f2:=hf 2 _ rfl
  have f3:=hf 3 _ rfl
  have f4:=hf 4 _ rfl
  simp only [cells_3,cells_24,cells_25,List.drop_succ_cons,List.drop_zero,List.take_succ_cons,List.take_zero,e0,e1,e2,e3,e4] at f0 f1 f2 f3 f4
  obtain ⟨k,g0,_,w0⟩:=DataW.trod_int Try.underlying3 f0
  obtain ⟨mn,g2,_,w2⟩:=DataW.trod_int Try.underlying3 f2
  obtain ⟨mx,g3,_,w3⟩:=DataW.trod_int Try.underlying3 f3
  obtain ⟨ws,m,rfl,_,hl1,hwl,hw⟩:=DataW.trod_array Try.underlying24 f1
  have hy : ∀ i,i < 4→∃ y,ws[i]?=some y:=fun i hi=>⟨_,List.getElem?_eq_getElem (by rw [hwl];exact hi)⟩
  obtain ⟨z0,k0⟩:=hy 0 (by omega)
  obtain ⟨z1,k1⟩:=hy 1 (by omega)
  obtain ⟨z2,k2⟩:=hy 2 (by omega)
  obtain ⟨z3,k3⟩:=hy 3 (by omega)
  have q0:=hw 0 (by omega)
  have q1:=hw 1 (by omega)
  have q2:=hw 2 (by omega)
  have q3:=hw 3 (by omega)
  simp only [cells_22,Nat.zero_mul,Nat.one_mul,Nat.mul_one,List.drop_succ_cons,List.drop_zero,List.take_succ_cons,List.take_zero,k0,k1,k2,k3] at q0 q1 q2 q3
  obtain ⟨a,a0,_,v0⟩:=DataW.trod_int Try.underlying22 q0
  obtain ⟨b,a1,_,v1⟩:=DataW.trod_int Try.underlying22 q1
  obtain ⟨c,a2,_,v2⟩:=DataW.trod_int Try.underlying22 q2
  obtain ⟨d,a3,_,v3⟩:=DataW.trod_int Try.underlying22 q3
  have one : ∀ {u v : Value},[u]=[v]→u=v:=fun h=>by cases h;rfl
  have s0:=one g0;have s2:=one g2;have s3:=one g3
  have t0:=one a0;have t1:=one a1;have t2:=one a2;have t3:=one a3
  subst s0 s2 s3 t0 t1 t2 t3
  have fin : ∀ subs : List T,inL subs→RD W NoA c7 (.sl (encL subs) subs.length)→∃ t : T,inT t∧RDs W [.int .i64 k,.int .u64 a,.int .u64 b,.int .u64 c,.int .u64 d,.int .i64 mn,.int .i64 mx,c7] (encN t):=by
    intro subs hs hr
    refine ⟨.node k a b c d mn mx subs,⟨wf_i64 w0,wf_u64 v0,wf_u64 v1,wf_u64 v2,wf_u64 v3,wf_i64 w2,wf_i64 w3,hs⟩,?_⟩
    exact .cons (.val _ rfl) (.cons (.val _ rfl) (.cons (.val _ rfl) (.cons (.val _ rfl) (.cons (.val _ rfl) (.cons (.val _ rfl) (.cons (.val _ rfl) (.cons hr .nil)))))))
  rcases DataW.trod_slice Try.underlying25 f4 with ⟨g4,_⟩ | ⟨ad,len,cap,elems,rest,n',hn',g4,_,_,hlc,_,hel,hr,_⟩
  · have:=one g4;subst this
    exact fin [] trivial (.sl0 none 0)
  · have:=one g4;subst this
    have hall : ∀ i,i < len→∃ cs t,W.cells? 0 (ad.add (i * 8)) 8=some cs∧inT t∧RDs W cs (encN t):=by
      intro i hi
      have h1:=hr i hi
      rw [cells_27,List.getElem?_eq_getElem (by omega)] at h1
      obtain ⟨cs,h2,h3⟩:=Option.bind_eq_some_iff.1 h1
      obtain ⟨t,h4,h5⟩:=ih n' (by omega) cs _ h3
      exact ⟨cs,t,h2,h4,h5⟩
    obtain ⟨l,h1,h2,h3⟩:=elems_open (sz:=8) (by omega) encN_len len hall
    refine fin l (inL_of h2) ?_
    rw [h1]
    by_cases h0 : len=0
    · subst h0
      rw [List.length_eq_zero_iff.1 h1]
      exact .sl0 _ _
    · have hsp : ad=⟨ad.block,ad.off,none⟩:=by
        obtain ⟨cs,t,g1,_,g2⟩:=hall 0 (by omega)
        obtain ⟨g7,g8⟩:=cells_at g1
        have g9:=g8 0 (by omega)
        rw [List.getElem?_eq_getElem (by omega)] at g9
        have:=cell_spot g9.symm
        simpa [Addr.add] using this
      rw [hsp]
      have hlen : (encL l).length=len * 8:=by rw [encL_len,h1]
      refine .sl ad.block ad.off len cap (encL l) (fun j=>(W.cell? ⟨ad.block,ad.off + j,none⟩).getD undef) (fun h=>h) (by omega) hlc (fun j hj=>?_) (fun j hj=>?_)
      · obtain ⟨v,_,g1,_⟩:=h3 j (by omega)
        rw [g1];rfl
      · obtain ⟨v,dd,g1,g2,g3⟩:=h3 j (by omega)
        rw [g1]
        rw [← encL_flat,List.getElem?_eq_getElem hj] at g2
        cases g2
        exact g3
end
end Go.Sv
namespace Go.Sv
open Go
set_option linter.unusedVariables false

mutual
theorem fits_open : ∀ (t : T) (left : Int),fitsT t left=true↔(0≤openT t∧openT t≤left)
  | .node k a b c d mn mx subs,left=>by
    have ih:=fitsL_open k subs left 0 (Int.le_refl _)
    simp only [fitsT,openT]
    by_cases hp : plainT (.node k a b c d mn mx subs)=true
    · rw [if_pos hp]
      simp only [Bool.and_eq_true,decide_eq_true_eq,hp,and_true]
      exact ih
    · rw [if_neg hp]
      simp only [Bool.and_eq_true,decide_eq_true_eq]
      constructor
      · rintro ⟨⟨_,h⟩,_⟩;exact absurd h hp
      · rintro ⟨h,_⟩;omega
theorem fitsL_open (k : Int) : ∀ (l : List T) (left m : Int),0≤m→((m≤left∧fitsL k l left=true)↔(0≤openL k l m∧openL k l m≤left))
  | [],left,m,hm=>by
    have e : (fitsL k [] left=true)=True:=by simp [fitsL]
    simp only [openL,e,and_true];omega
  | t :: l,left,m,hm=>by
    have h1:=fits_open t (if roundG k t.kind=true then left - 1 else left)
    simp only [fitsL,openL,Bool.and_eq_true]
    rw [h1]
    by_cases hn : openT t < 0
    · rw [if_pos hn];omega
    · rw [if_neg hn]
      have h2:=fitsL_open k l left (max m (if roundG k t.kind=true then openT t + 1 else openT t)) (by split<;>omega)
      rw [← h2]
      by_cases hf : fitsL k l left=true
      · simp only [hf,and_true];split<;>omega
      · simp only [hf,and_false];simp
end
theorem right_fits (t : T) : rightT t=fitsT t 12:=by
  rw [Bool.eq_iff_iff,fits_open]
  simp [rightT]
mutual
theorem ok_of_open : ∀ (t : T),inT t→0≤openT t→okT t
  | .node k a b c d mn mx subs,h,ho=>by
    simp only [inT] at h
    obtain ⟨_,ha,hb,hc,hd,_,_,hs⟩:=h
    simp only [openT] at ho
    split at ho
    · rename_i hp
      refine ⟨⟨ha,hb,hc,hd,hp⟩,okL_of_open k subs hs 0 ho⟩
    · omega
theorem okL_of_open (k : Int) : ∀ (l : List T),inL l→∀ m : Int,0≤openL k l m→okL l
  | [],_,_,_=>trivial
  | t :: l,h,m,ho=>by
    simp only [inL] at h
    simp only [openL] at ho
    split at ho
    · omega
    · exact ⟨ok_of_open t h.1 (by omega),okL_of_open k l h.2 _ ho⟩
end
theorem ok_of_right {t : T} (h : inT t) (hr : rightT t=true) : okT t:=ok_of_open t h (by simp [rightT] at hr;omega)
end Go.Sv
namespace Go.Sv
open Go Go.Proofs
set_option maxRecDepth 100000
end Go.Sv
namespace Go.Sv
open Go Go.Proofs
def x3 : XC:=(.seq (.ops 2 [ (0,⟨some 3,none,.box (.t 0)⟩),(1,⟨some 6,none,.mv (.k (.d (.val (.bool false))))⟩)] (some [1,2,3])) (.seq (.seq (.ops 8 [ (0,⟨some 9,none,.call 29 [] none false⟩),(1,⟨some 10,none,.un .not (.t 9)⟩),(2,⟨some 11,none,.mv (.t 10)⟩),(3,⟨some 12,(some (11,false)),.load (some 8) (.t 3)⟩),(4,⟨some 13,(some (11,false)),.mv (.t 1)⟩),(5,⟨some 14,(some (11,false)),.call 30 [(.t 12),(.t 13)] none false⟩),(6,⟨some 15,(some (11,false)),.un .not (.t 14)⟩),(7,⟨some 16,none,.pick (.t 11) (.k (.d (.val (.bool true)))) (.t 15)⟩)] (some [1,2,3,16])) (.cond (.t 16) (.seq (.ops 2 [ (0,⟨some 17,none,.call 29 [] none false⟩),(1,⟨some 6,none,.mv (.t 17)⟩)] (some [6])) .ret) .skip)) (.seq (.ops 9 [ (0,⟨some 19,none,.load (some 8) (.t 3)⟩),(1,⟨some 20,none,.mv (.t 1)⟩),(2,⟨some 21,none,.mv (.t 2)⟩),(3,⟨some 22,none,.call 31 [(.t 19),(.t 20),(.t 21)] none false⟩),(4,⟨some 18,none,.mv (.t 22)⟩),(5,⟨some 23,none,.ext (.t 18) 0⟩),(6,⟨some 24,none,.ext (.t 18) 1⟩),(7,⟨some 7,none,.mv (.t 23)⟩),(8,⟨some 8,none,.mv (.t 24)⟩)] (some [1,2,3,7,8])) (.seq (.block 0 (.seq (.ops 4 [ (0,⟨some 26,none,.load (some 8) (.t 3)⟩),(1,⟨some 27,none,.call 32 [(.t 26)] none false⟩),(2,⟨some 28,none,.un .not (.t 27)⟩),(3,⟨some 25,none,.mv (.t 28)⟩)] (some [1,2,3,7,8,25])) (.cond (.t 25) (.seq (.ops 14 [ (0,⟨some 29,none,.mv (.t 7)⟩),(1,⟨some 30,none,.lenS (.t 29)⟩),(2,⟨some 31,none,.arith .eql (.t 30) (.k (.d (.val (.int .i64 0))))⟩),(3,⟨some 32,none,.mv (.t 31)⟩),(4,⟨some 33,(some (32,true)),.mv (.t 8)⟩),(5,⟨some 34,(some (32,true)),.arith .eql (.t 33) (.k (.d (.val (.int .i64 1))))⟩),(6,⟨some 35,none,.pick (.t 32) (.t 34) (.k (.d (.val (.bool false))))⟩),(7,⟨some 36,none,.mv (.t 35)⟩),(8,⟨some 37,(some (36,true)),.load (some 8) (.t 3)⟩),(9,⟨some 38,(some (36,true)),.mv (.t 1)⟩),(10,⟨some 39,(some (36,true)),.call 33 [(.t 37),(.t 38)] none false⟩),(11,⟨some 40,(some (36,true)),.un .not (.t 39)⟩),(12,⟨some 41,none,.pick (.t 36) (.t 40) (.k (.d (.val (.bool false))))⟩),(13,⟨some 6,none,.mv (.t 41)⟩)] (some [6])) .ret) (.seq (.ops 9 [ (0,⟨some 43,none,.mv (.t 2)⟩),(1,⟨some 44,none,.arith .lss (.t 43) (.k (.d (.val (.int .i64 0))))⟩),(2,⟨some 45,none,.mv (.t 44)⟩),(3,⟨some 46,(some (45,false)),.mv (.t 2)⟩),(4,⟨some 47,(some (45,false)),.mv (.t 1)⟩),(5,⟨some 48,(some (45,false)),.lenT (.t 47)⟩),(6,⟨some 49,(some (45,false)),.arith .gtr (.t 46) (.t 48)⟩),(7,⟨some 50,none,.pick (.t 45) (.k (.d (.val (.bool true)))) (.t 49)⟩),(8,⟨some 42,none,.mv (.t 50)⟩)] (some [1,2,3,7,8,42])) (.cond (.t 42) (.seq (.ops 15 [ (0,⟨some 51,none,.mv (.t 7)⟩),(1,⟨some 52,none,.lenS (.t 51)⟩),(2,⟨some 53,none,.arith .eql (.t 52) (.k (.d (.val (.int .i64 0))))⟩),(3,⟨some 54,none,.mv (.t 53)⟩),(4,⟨some 55,(some (54,true)),.mv (.t 8)⟩),(5,⟨some 56,(some (54,true)),.arith .eql (.t 55) (.k (.d (.val (.int .i64 2))))⟩),(6,⟨some 57,none,.pick (.t 54) (.t 56) (.k (.d (.val (.bool false))))⟩),(7,⟨some 58,none,.mv (.t 57)⟩),(8,⟨some 59,(some (58,true)),.load (some 8) (.t 3)⟩),(9,⟨some 60,(some (58,true)),.mv (.t 1)⟩),(10,⟨some 61,(some (58,true)),.mv (.t 2)⟩),(11,⟨some 62,(some (58,true)),.call 34 [(.t 59),(.t 60),(.t 61)] none false⟩),(12,⟨some 63,(some (58,true)),.arith .eql (.t 62) (.k (.d (.val (.int .i64 (-1)))))⟩),(13,⟨some 64,none,.pick (.t 58) (.t 63) (.k (.d (.val (.bool false))))⟩),(14,⟨some 6,none,.mv (.t 64)⟩)] (some [6])) .ret) .skip))))) (.seq (.ops 22 [ (0,⟨some 65,none,.mv (.t 8)⟩),(1,⟨some 66,none,.arith .eql (.t 65) (.k (.d (.val (.int .i64 0))))⟩),(2,⟨some 67,none,.mv (.t 66)⟩),(3,⟨some 68,(some (67,true)),.mv (.t 7)⟩),(4,⟨some 69,(some (67,true)),.load (some 8) (.t 3)⟩),(5,⟨some 70,(some (67,true)),.mv (.t 1)⟩),(6,⟨some 71,(some (67,true)),.mv (.t 2)⟩),(7,⟨some 72,(some (67,true)),.call 36 [(.t 69),(.t 70),(.t 71)] none false⟩),(8,⟨some 73,(some (67,true)),.call 35 [(.t 68),(.t 72)] none false⟩),(9,⟨some 74,none,.pick (.t 67) (.t 73) (.k (.d (.val (.bool false))))⟩),(10,⟨some 75,none,.mv (.t 74)⟩),(11,⟨some 76,(some (75,true)),.load (some 8) (.t 3)⟩),(12,⟨some 77,(some (75,true)),.mv (.t 1)⟩),(13,⟨some 78,(some (75,true)),.mv (.t 2)⟩),(14,⟨some 79,(some (75,true)),.call 34 [(.t 76),(.t 77),(.t 78)] none false⟩),(15,⟨some 80,(some (75,true)),.load (some 8) (.t 3)⟩),(16,⟨some 81,(some (75,true)),.mv (.t 1)⟩),(17,⟨some 82,(some (75,true)),.mv (.t 2)⟩),(18,⟨some 83,(some (75,true)),.call 37 [(.t 80),(.t 81),(.t 82)] none false⟩),(19,⟨some 84,(some (75,true)),.arith .eql (.t 79) (.t 83)⟩),(20,⟨some 85,none,.pick (.t 75) (.t 84) (.k (.d (.val (.bool false))))⟩),(21,⟨some 6,none,.mv (.t 85)⟩)] (some [6])) .ret)))))
def md3 : FuncId→Option Nat × Bool
  | _=>(none,false)
def od3 : Nat→List (List Nat) × List Nat × Option (List Nat)
  | 0=>([],[],some [1,2,3])
  | 1=>([],[],some [1,2,3,16])
  | 2=>([],[],some [6])
  | 3=>([],[],some [1,2,3,7,8])
  | 4=>([],[],some [1,2,3,7,8,25])
  | 5=>([],[],some [6])
  | 6=>([],[],some [1,2,3,7,8,42])
  | 7=>([],[],some [6])
  | 8=>([[],[0],[0,1],[0,1,2],[0,1,2],[0,1,2],[0,1,2],[0,1,2,4,5,6],[0,1,2,3,4,5,6,7],[0,1,2,3,4,5,6,7,8],[0,1,2,3,4,5,6,7,8,9],[0,1,2,3,4,5,6,7,8,9,10],[0,1,2,3,4,5,6,7,8,9,10],[0,1,2,3,4,5,6,7,8,9,10],[0,1,2,3,4,5,6,7,8,9,10,11,12,13],[0,1,2,3,4,5,6,7,8,9,10],[0,1,2,3,4,5,6,7,8,9,10],[0,1,2,3,4,5,6,7,8,9,10],[0,1,2,3,4,5,6,7,8,9,10,11,12,13,14,15,16,17],[0,1,2,3,4,5,6,7,8,9,10,11,12,13,14,15,16,17,18],[0,1,2,3,4,5,6,7,8,9,10,11,12,13,14,15,16,17,18,19],[0,1,2,3,4,5,6,7,8,9,10,11,12,13,14,15,16,17,18,19,20]],[0,1,2,3,4,5,6,7,8,9,10,11,12,13,14,15,16,17,18,19,20,21],some [6])
  | _=>([],[],none)
theorem b3 {ags : List AV} {row : Option (List DV)} {r : AV} {row' nw : Option (List DV)} (hal : ags.length≤86) (hrow : row'.isSome=true→row.isSome=true) (h : xwp Try.prog x3 (retK [.tmp 6] row.isSome r row' nw) (St.init ags row)) : Good Try.prog 3 ags row r row' nw :=
  good_of_body' (md:=md3) (od:=od3) Try.f3 (by kernel_rfl) (by kernel_rfl) (by kernel_rfl) (by kernel_rfl) (by kernel_rfl) hal hrow h

set_option maxRecDepth 100000
set_option maxHeartbeats 4000000
attribute [local irreducible] W E R KP thenK blockK retK Good xwp aRun
theorem few_cnt {t : T} (h : sizeT t 601≤200) : t.cnt≤200:=by
  have:=sizeT_cnt t 601 (by omega)
  omega
end Go.Sv
namespace Go.Sv
open Go Go.Proofs
set_option maxRecDepth 100000
set_option maxHeartbeats 4000000
attribute [local irreducible] W E R KP thenK blockK retK Good xwp aRun
def zT : T:=.node 0 0 0 0 0 0 0 []
def eE (t : T) (n : Int) : Int:=if fitsT t 12=true then (if min n 400 < wideT t then 11 else 0) else 1
def eN (t : T) (n : Int) : T:=if eE t n=0 then xT t else zT
theorem xPlain_good (t : T) (hc : t.cnt≤1000000) (hok : fitsT t 12=true→okT t) (n : Int) : Good Try.prog 57 [nodeA t,.i n] none (.tup [nodeA (eN t n),.i (eE t n)]) none none:=by
  have hright:=right_good t hc
  have hw:=mWide_good t hc hok
  rcases Bool.eq_false_or_eq_true (fitsT t 12) with hR | hR
  case inr =>
    have e1 : eE t n=1:=by simp [eE,hR]
    have e2 : eN t n=zT:=by simp [eN,e1]
    rw [e1,e2]
    rw [hR] at hright
    clear e1 e2 hw hok hc hR
    obtain ⟨k,a,b,c,d,mn,mx,subs⟩:=t
    have e0 : nodeA (.node k a b c d mn mx subs)=.agg [.i k,.d (.val (.int .u64 a)),.d (.val (.int .u64 b)),.d (.val (.int .u64 c)),.d (.val (.int .u64 d)),.i mn,.i mx,.d (.sl (encL subs) subs.length)]:=rfl
    rw [e0] at hright ⊢
    refine b57 (by simp) (by simp) (w_init ?_)
    unfold x57
    repeat' (first|(apply r_mvV;rfl)|(apply r_callA;rfl;rfl;exact hright)|(apply r_ldL;rfl;rfl;rfl)|(apply r_not;rfl;rfl)|(apply r_alloc;((conv=>lhs;simp only [Nat.reduceAdd])<;>rfl);rfl)|(apply r_box;((conv=>lhs;simp only [Nat.reduceAdd])<;>rfl);rfl;rfl;rfl)|(apply r_stL;rfl;rfl;rfl;rfl;(first|rfl|(simp only [z_nil,z_add]<;>rfl));rfl;rfl)|(apply r_p;rfl)|(apply r_nilK)|(apply k_V;rfl)|(apply k_PL;rfl)|(apply k_nil)|(apply e_ret;rfl)|(apply w_seq)|(apply w_ops;((conv=>lhs;simp only [Nat.reduceAdd])<;>rfl))|(apply w_condT;rfl)|(apply e_thenN)|(apply w_block)|(apply e_thenR)|(apply e_blkR)|(apply w_ret))
    exact .data _ rfl
  rw [hR] at hright
  rw [if_pos hR] at hw
  by_cases hb : min n 400 < wideT t
  · have e1 : eE t n=11:=by simp only [eE,hR,hb,if_true]
    have e2 : eN t n=zT:=by simp [eN,e1]
    rw [e1,e2]
    clear e1 e2 hok hc hR
    generalize wideT t=w at hw hb
    obtain ⟨k,a,b,c,d,mn,mx,subs⟩:=t
    have e0 : nodeA (.node k a b c d mn mx subs)=.agg [.i k,.d (.val (.int .u64 a)),.d (.val (.int .u64 b)),.d (.val (.int .u64 c)),.d (.val (.int .u64 d)),.i mn,.i mx,.d (.sl (encL subs) subs.length)]:=rfl
    rw [e0] at hright hw ⊢
    refine b57 (by simp) (by simp) (w_init ?_)
    unfold x57
    repeat' (first|(apply r_mvV;rfl)|(apply r_callA;rfl;rfl;exact hright)|(apply r_callA;rfl;rfl;exact hw)|(apply r_ldL;rfl;rfl;rfl)|(apply r_gtr;rfl;rfl;(first|(apply dT;omega)|(apply dF;omega)|rfl))|(apply r_min2;rfl;rfl;rfl)|(apply r_not;rfl;rfl)|(apply r_alloc;((conv=>lhs;simp only [Nat.reduceAdd])<;>rfl);rfl)|(apply r_box;((conv=>lhs;simp only [Nat.reduceAdd])<;>rfl);rfl;rfl;rfl)|(apply r_stL;rfl;rfl;rfl;rfl;(first|rfl|(simp only [z_nil,z_add]<;>rfl));rfl;rfl)|(apply r_p;rfl)|(apply r_nilK)|(apply k_V;rfl)|(apply k_PL;rfl)|(apply k_nil)|(apply e_ret;rfl)|(apply w_seq)|(apply w_ops;((conv=>lhs;simp only [Nat.reduceAdd])<;>rfl))|(apply w_condT;rfl)|(apply w_condF;rfl)|(apply e_thenN)|(apply w_block)|(apply e_thenR)|(apply e_blkR)|(apply w_ret))
    exact .data _ rfl
  · have e1 : eE t n=0:=by simp only [eE,hR,hb,if_true,if_false]
    have e2 : eN t n=xT t:=by simp only [eN,e1,if_true]
    rw [e1,e2]
    have hx:=xplain_good 1000000 t hc (Nat.le_refl _) (hok hR)
    clear e1 e2 hok hc hR
    generalize wideT t=w at hw hb
    generalize xT t=u at hx
    obtain ⟨k2,a2,b2,c2,d2,mn2,mx2,subs2⟩:=u
    obtain ⟨k,a,b,c,d,mn,mx,subs⟩:=t
    have e0 : nodeA (.node k a b c d mn mx subs)=.agg [.i k,.d (.val (.int .u64 a)),.d (.val (.int .u64 b)),.d (.val (.int .u64 c)),.d (.val (.int .u64 d)),.i mn,.i mx,.d (.sl (encL subs) subs.length)]:=rfl
    rw [e0] at hright hw hx ⊢
    refine b57 (by simp) (by simp) (w_init ?_)
    unfold x57
    repeat' (first|(apply r_mvV;rfl)|(apply r_callA;rfl;rfl;exact hright)|(apply r_callA;rfl;rfl;exact hw)|(apply r_callA;rfl;rfl;exact hx)|(apply r_ldL;rfl;rfl;rfl)|(apply r_gtr;rfl;rfl;(first|(apply dT;omega)|(apply dF;omega)|rfl))|(apply r_min2;rfl;rfl;rfl)|(apply r_not;rfl;rfl)|(apply r_alloc;((conv=>lhs;simp only [Nat.reduceAdd])<;>rfl);rfl)|(apply r_box;((conv=>lhs;simp only [Nat.reduceAdd])<;>rfl);rfl;rfl;rfl)|(apply r_stL;rfl;rfl;rfl;rfl;(first|rfl|(simp only [z_nil,z_add]<;>rfl));rfl;rfl)|(apply r_nilK)|(apply k_V;rfl)|(apply k_PL;rfl)|(apply k_nil)|(apply e_ret;rfl)|(apply w_seq)|(apply w_ops;((conv=>lhs;simp only [Nat.reduceAdd])<;>rfl))|(apply w_condF;rfl)|(apply e_thenN)|(apply w_block)|(apply e_blkN)|(apply w_ret)|(apply w_skip))
    exact .data _ rfl
end Go.Sv
namespace Go.Sv
open Go Go.Proofs
section
variable {P : Program} {Q : Cont} {fr : Fr} {C : Heap} {Z : Frz} {nx : Nat} {base n d0 : Nat} {l : List (Nat × XO)} {kp : Option (List Nat)} {x y : X}
end
set_option maxRecDepth 100000
set_option maxHeartbeats 4000000
attribute [local irreducible] W E R KP thenK blockK retK Good xwp aRun
end Go.Sv
namespace Go.Sv
open Go Go.Proofs
set_option maxRecDepth 100000
set_option maxHeartbeats 4000000
attribute [local irreducible] W E R KP thenK blockK retK Good xwp aRun
end Go.Sv
namespace Go.Sv
open Go
theorem L_k1 {a b c d mn mx : Int} {subs : List T} {w : List Nat} : L (.node 1 a b c d mn mx subs) w↔w=[]:=by simp [L]
theorem L_k2 {a b c d mn mx : Int} {subs : List T} {w : List Nat} : L (.node 2 a b c d mn mx subs) w↔∃ x,w=[x]∧inG a b c d x=true:=by simp [L]
theorem L_k3 {a b c d mn mx : Int} {subs : List T} {w : List Nat} : L (.node 3 a b c d mn mx subs) w↔catL subs w:=by simp [L]
theorem L_k4 {a b c d mn mx : Int} {subs : List T} {w : List Nat} : L (.node 4 a b c d mn mx subs) w↔altL subs w:=by simp [L]
theorem L_k5 {a b c d mn mx : Int} {subs : List T} {w : List Nat} : L (.node 5 a b c d mn mx subs) w↔∃ r : Nat,mn≤r∧(mx < 0 ∨ (r : Int)≤mx)∧powL (fstL subs) r w:=by simp [L]
theorem catL_app : ∀ (l r : List T) (w : List Nat),catL (l++r) w↔∃ u v,w=u++v∧catL l u∧catL r v
  | [],r,w=>by
    simp only [List.nil_append,catL]
    constructor
    · intro h;exact ⟨[],w,rfl,rfl,h⟩
    · rintro ⟨u,v,rfl,rfl,h⟩;exact h
  | t :: l,r,w=>by
    simp only [List.cons_append,catL]
    constructor
    · rintro ⟨u,v,rfl,h1,h2⟩
      obtain ⟨a,b,rfl,h3,h4⟩:=(catL_app l r v).1 h2
      exact ⟨u++a,b,by simp,⟨u,a,rfl,h1,h3⟩,h4⟩
    · rintro ⟨_,v,rfl,⟨u,a,rfl,h1,h3⟩,h4⟩
      exact ⟨u,a++v,by simp,h1,(catL_app l r _).2 ⟨a,v,rfl,h3,h4⟩⟩
theorem altL_app : ∀ (l r : List T) (w : List Nat),altL (l++r) w↔altL l w ∨ altL r w
  | [],r,w=>by simp [altL]
  | t :: l,r,w=>by simp only [List.cons_append,altL,altL_app l r w,or_assoc]
theorem catL_one (t : T) (w : List Nat) : catL [t] w↔L t w:=by
  simp only [catL]
  constructor
  · rintro ⟨u,v,rfl,h,rfl⟩;simpa using h
  · intro h;exact ⟨w,[],by simp,h,rfl⟩
theorem catL_rep (t : T) : ∀ (n : Nat) (w : List Nat),catL (List.replicate n t) w↔powL (L t) n w
  | 0,w=>by simp [catL,powL]
  | n + 1,w=>by
    rw [List.replicate_succ];simp only [catL,powL,catL_rep t n]
theorem powL_congr {P Q : List Nat→Prop} (h : ∀ w,P w↔Q w) : ∀ (n : Nat) (w : List Nat),powL P n w↔powL Q n w
  | 0,w=>Iff.rfl
  | n + 1,w=>by simp only [powL,h,powL_congr h n]
theorem powL_add (P : List Nat→Prop) : ∀ (a b : Nat) (w : List Nat),powL P (a + b) w↔∃ u v,w=u++v∧powL P a u∧powL P b v
  | 0,b,w=>by
    rw [Nat.zero_add];simp only [powL]
    constructor
    · intro h;exact ⟨[],w,rfl,rfl,h⟩
    · rintro ⟨u,v,rfl,rfl,h⟩;exact h
  | a + 1,b,w=>by
    rw [Nat.succ_add];simp only [powL]
    constructor
    · rintro ⟨u,v,rfl,h1,h2⟩
      obtain ⟨p,q,rfl,h3,h4⟩:=(powL_add P a b v).1 h2
      exact ⟨u++p,q,by simp,⟨u,p,rfl,h1,h3⟩,h4⟩
    · rintro ⟨_,v,rfl,⟨u,p,rfl,h1,h3⟩,h4⟩
      exact ⟨u,p++v,by simp,h1,(powL_add P a b _).2 ⟨p,v,rfl,h3,h4⟩⟩
theorem L_star (t : T) (w : List Nat) : L (starN t) w↔∃ r : Nat,powL (L t) r w:=by
  rw [starN,L_k5]
  constructor
  · rintro ⟨r,_,_,h⟩;exact ⟨r,h⟩
  · rintro ⟨r,h⟩;exact ⟨r,by omega,.inl (by omega),h⟩
theorem L_maybe (t : T) (w : List Nat) : L (maybeN t) w↔L t w ∨ w=[]:=by
  rw [maybeN,L_k4];simp only [altL,L_k1,or_false]
theorem catL_maybe (t : T) : ∀ (n : Nat) (w : List Nat),catL (List.replicate n (maybeN t)) w↔∃ r : Nat,r≤n∧powL (L t) r w
  | 0,w=>by
    simp only [List.replicate_zero,catL]
    constructor
    · rintro rfl;exact ⟨0,Nat.le_refl _,rfl⟩
    · rintro ⟨r,h,h2⟩
      have : r=0:=by omega
      subst this;exact h2
  | n + 1,w=>by
    rw [List.replicate_succ];simp only [catL,L_maybe]
    constructor
    · rintro ⟨u,v,rfl,h | rfl,h2⟩
      · obtain ⟨r,h3,h4⟩:=(catL_maybe t n v).1 h2
        exact ⟨r + 1,by omega,u,v,rfl,h,h4⟩
      · obtain ⟨r,h3,h4⟩:=(catL_maybe t n v).1 h2
        exact ⟨r,by omega,h4⟩
    · rintro ⟨r,h,h2⟩
      cases r with
      | zero =>
        refine ⟨[],w,rfl,.inr rfl,(catL_maybe t n w).2 ⟨0,by omega,h2⟩⟩
      | succ r =>
        obtain ⟨u,v,rfl,h3,h4⟩:=h2
        exact ⟨u,v,rfl,.inl h3,(catL_maybe t n v).2 ⟨r,by omega,h4⟩⟩
theorem L_repT (t : T) (lo : Nat) (hi : Int) (w : List Nat) : L (repT t lo hi) w↔catL (repRow t lo hi) w:=by
  unfold repT
  split
  · rename_i e;rw [e,L_k1,catL]
  · rename_i u e;rw [e,catL_one]
  · rw [L_k3]
theorem L_rep (t : T) (lo : Nat) (hi : Int) (h : hi < 0 ∨ (lo : Int)≤hi) (w : List Nat) : L (repT t lo hi) w↔∃ r : Nat,(lo : Int)≤r∧(hi < 0 ∨ (r : Int)≤hi)∧powL (L t) r w:=by
  rw [L_repT,repRow,catL_app]
  by_cases hh : hi < 0
  · simp only [if_pos hh,catL_one,L_star,catL_rep]
    constructor
    · rintro ⟨u,v,rfl,h1,r,h2⟩
      exact ⟨lo + r,by omega,.inl hh,(powL_add _ _ _ _).2 ⟨u,v,rfl,h1,h2⟩⟩
    · rintro ⟨r,h1,_,h2⟩
      rw [show r=lo + (r - lo) by omega] at h2
      obtain ⟨u,v,rfl,h3,h4⟩:=(powL_add _ _ _ _).1 h2
      exact ⟨u,v,rfl,h3,_,h4⟩
  · simp only [if_neg hh,catL_maybe]
    simp only [catL_rep]
    constructor
    · rintro ⟨u,v,rfl,h1,r,h2,h3⟩
      exact ⟨lo + r,by omega,.inr (by omega),(powL_add _ _ _ _).2 ⟨u,v,rfl,h1,h3⟩⟩
    · rintro ⟨r,h1,h1',h2⟩
      rw [show r=lo + (r - lo) by omega] at h2
      obtain ⟨u,v,rfl,h3,h4⟩:=(powL_add _ _ _ _).1 h2
      exact ⟨u,v,rfl,h3,_,by omega,h4⟩
theorem plainT_5 {a b c d mn mx : Int} {subs : List T} (h : plainT (.node 5 a b c d mn mx subs)=true) : ∃ u,subs=[u]:=by
  simp [plainT] at h
  obtain ⟨_,h⟩:=h
  match subs,h with
  | [u],_=>exact ⟨u,rfl⟩
theorem okT_plain {k a b c d mn mx : Int} {subs : List T} (h : okT (.node k a b c d mn mx subs)) : plainT (.node k a b c d mn mx subs)=true:=by
  simp only [okT,okN] at h;exact h.1.2.2.2.2
theorem okT_subs {k a b c d mn mx : Int} {subs : List T} (h : okT (.node k a b c d mn mx subs)) : okL subs:=by
  simp only [okT] at h;exact h.2
theorem plainT_leaf {k a b c d mn mx : Int} {subs : List T} (hk : k=1 ∨ k=2) (h : plainT (.node k a b c d mn mx subs)=true) : subs=[]:=by
  cases subs with
  | nil=>rfl
  | cons x l=>exfalso;rcases hk with rfl | rfl<;>simp [plainT] at h
mutual
theorem xT_L : ∀ (t : T),okT t→∀ w,L (xT t) w↔L t w
  | .node k a b c d mn mx subs,h,w=>by
    have hs:=okT_subs h
    have hp:=okT_plain h
    have hR:=okT_R h
    have hx:=xL_L subs hs
    by_cases h5 : k=5
    · subst h5
      obtain ⟨u,rfl⟩:=plainT_5 hp
      obtain ⟨hm,hm2⟩:=hR rfl
      rw [xT,if_pos rfl]
      simp only [xL,List.headD_cons]
      rw [L_rep _ _ _ (by omega),L_k5]
      have hu : ∀ w,L (xT u) w↔fstL [u] w:=fun w=>by rw [fstL];exact (hx.2.2 w)
      simp only [powL_congr hu,Int.toNat_of_nonneg hm.1]
    · rw [xT,if_neg h5]
      by_cases h34 : k=3 ∨ k=4
      · rw [if_pos h34]
        rcases h34 with rfl | rfl
        · rw [L_k3,L_k3];exact hx.1 w
        · rw [L_k4,L_k4];exact hx.2.1 w
      · rw [if_neg h34]
theorem xL_L : ∀ (l : List T),okL l→(∀ w,catL (xL l) w↔catL l w)∧(∀ w,altL (xL l) w↔altL l w)∧(∀ w,fstL (xL l) w↔fstL l w)
  | [],_=>⟨fun _=>Iff.rfl,fun _=>Iff.rfl,fun _=>Iff.rfl⟩
  | t :: l,h=>by
    simp only [okL] at h
    have h1:=xT_L t h.1
    have h2:=xL_L l h.2
    refine ⟨fun w=>?_,fun w=>?_,fun w=>?_⟩
    · simp only [xL,catL,h1,h2.1]
    · simp only [xL,altL,h1,h2.2.1]
    · simp only [xL,fstL,h1]
end
theorem okW_0 : okW 0:=by unfold okW;omega
theorem okT_mk {k mn mx : Int} {subs : List T} (h : plainT (.node k 0 0 0 0 mn mx subs)=true) (hs : okL subs) : okT (.node k 0 0 0 0 mn mx subs):=by
  simp only [okT,okN];exact ⟨⟨okW_0,okW_0,okW_0,okW_0,h⟩,hs⟩
theorem okL_iff : ∀ (l : List T),okL l↔∀ t ∈ l,okT t
  | []=>by simp [okL]
  | t :: l=>by simp [okL,okL_iff l]
theorem okT_empty : okT (.node 1 0 0 0 0 0 0 []):=okT_mk (by simp [plainT,isZero]) trivial
theorem okT_star {t : T} (h : okT t) : okT (starN t):=okT_mk (by simp [plainT,isZero]) ⟨h,trivial⟩
theorem okT_maybe {t : T} (h : okT t) : okT (maybeN t):=okT_mk (by simp [plainT,isZero]) ⟨h,okT_empty,trivial⟩
theorem okL_repRow {t : T} (h : okT t) (lo : Nat) (hi : Int) : okL (repRow t lo hi):=by
  rw [okL_iff]
  intro u hu
  rw [repRow,List.mem_append] at hu
  rcases hu with hu | hu
  · rw [List.mem_replicate] at hu;rw [hu.2];exact h
  · split at hu
    · rw [List.mem_singleton] at hu;rw [hu];exact okT_star h
    · rw [List.mem_replicate] at hu;rw [hu.2];exact okT_maybe h
theorem okT_repT {t : T} (h : okT t) (lo : Nat) (hi : Int) : okT (repT t lo hi):=by
  have hr:=okL_repRow h lo hi
  unfold repT
  split
  · exact okT_empty
  · rename_i u e;rw [e] at hr;exact hr.1
  · rename_i l h1 h2
    refine okT_mk ?_ hr
    match hq : repRow t lo hi with
    | []=>exact absurd hq h1
    | [u]=>exact absurd hq (h2 u)
    | _ :: _ :: _=>simp [plainT,isZero]
mutual
theorem xT_ok : ∀ (t : T),okT t→okT (xT t)
  | .node k a b c d mn mx subs,h=>by
    have hs:=okT_subs h
    have hp:=okT_plain h
    have hx:=xL_ok subs hs
    by_cases h5 : k=5
    · subst h5
      obtain ⟨u,rfl⟩:=plainT_5 hp
      rw [xT,if_pos rfl]
      simp only [xL,List.headD_cons] at hx ⊢
      exact okT_repT hx.1 _ _
    · rw [xT,if_neg h5]
      by_cases h34 : k=3 ∨ k=4
      · rw [if_pos h34]
        refine okT_mk ?_ hx
        have hl:=xL_len subs
        rcases h34 with rfl | rfl<;>(simp [plainT,isZero] at hp ⊢;omega)
      · rw [if_neg h34];exact h
theorem xL_ok : ∀ (l : List T),okL l→okL (xL l)
  | [],_=>trivial
  | t :: l,h=>by
    simp only [okL] at h
    exact ⟨xT_ok t h.1,xL_ok l h.2⟩
end
theorem isPL_iff : ∀ (l : List T),isPL l=true↔∀ t ∈ l,isP t=true
  | []=>by simp [isPL]
  | t :: l=>by simp [isPL,isPL_iff l]
theorem isP_mk {k mn mx : Int} {subs : List T} (h : bareT (.node k 0 0 0 0 mn mx subs)=true) (hs : isPL subs=true) : isP (.node k 0 0 0 0 mn mx subs)=true:=by rw [isP,hs,h];rfl
theorem isP_empty : isP (.node 1 0 0 0 0 0 0 [])=true:=isP_mk (by simp [bareT,isZero]) rfl
theorem isP_star {t : T} (h : isP t=true) : isP (starN t)=true:=isP_mk (by simp [bareT,isZero]) (by simp [isPL,h])
theorem isP_maybe {t : T} (h : isP t=true) : isP (maybeN t)=true:=isP_mk (by simp [bareT,isZero]) (by simp [isPL,h,isP_empty])
theorem isPL_repRow {t : T} (h : isP t=true) (lo : Nat) (hi : Int) : isPL (repRow t lo hi)=true:=by
  rw [isPL_iff]
  intro u hu
  rw [repRow,List.mem_append] at hu
  rcases hu with hu | hu
  · rw [List.mem_replicate] at hu;rw [hu.2];exact h
  · split at hu
    · rw [List.mem_singleton] at hu;rw [hu];exact isP_star h
    · rw [List.mem_replicate] at hu;rw [hu.2];exact isP_maybe h
theorem isP_repT {t : T} (h : isP t=true) (lo : Nat) (hi : Int) : isP (repT t lo hi)=true:=by
  have hr:=isPL_repRow h lo hi
  unfold repT
  split
  · exact isP_empty
  · rename_i u e;rw [e] at hr;simpa [isPL] using hr
  · rename_i l h1 h2
    refine isP_mk ?_ hr
    match hq : repRow t lo hi with
    | []=>exact absurd hq h1
    | [u]=>exact absurd hq (h2 u)
    | _ :: _ :: _=>simp [bareT,isZero]
mutual
theorem xT_isP : ∀ (t : T),okT t→isP (xT t)=true
  | .node k a b c d mn mx subs,h=>by
    have hs:=okT_subs h
    have hp:=okT_plain h
    have hx:=xL_isP subs hs
    by_cases h5 : k=5
    · subst h5
      obtain ⟨u,rfl⟩:=plainT_5 hp
      rw [xT,if_pos rfl]
      simp only [xL,isPL,List.headD_cons,Bool.and_true] at hx ⊢
      exact isP_repT hx _ _
    · rw [xT,if_neg h5]
      by_cases h34 : k=3 ∨ k=4
      · rw [if_pos h34]
        refine isP_mk ?_ hx
        have hl:=xL_len subs
        rcases h34 with rfl | rfl<;>(simp [plainT,bareT,isZero] at hp ⊢;omega)
      · rw [if_neg h34]
        have hk : k=1 ∨ k=2:=by
          have:=(plainT_kind hp).1;omega
        have hz : subs=[]:=plainT_leaf hk hp
        subst hz
        rw [isP,isPL,Bool.true_and]
        rcases hk with rfl | rfl<;>(simp [plainT,bareT,isZero] at hp ⊢;omega)
theorem xL_isP : ∀ (l : List T),okL l→isPL (xL l)=true
  | [],_=>rfl
  | t :: l,h=>by
    simp only [okL] at h
    rw [xL,isPL,xT_isP t h.1,xL_isP l h.2];rfl
end
theorem cntL_app : ∀ (l r : List T),cntL (l++r)=cntL l + cntL r
  | [],r=>by simp [cntL]
  | t :: l,r=>by rw [List.cons_append,cntL,cntL_app l r,cntL];omega
theorem cntL_rep (t : T) : ∀ n,cntL (List.replicate n t)=n * t.cnt
  | 0=>by simp [cntL]
  | n + 1=>by rw [List.replicate_succ,cntL,cntL_rep t n,Nat.succ_mul];omega
theorem cnt_repT (t : T) (lo : Nat) (hi : Int) : (repT t lo hi).cnt≤1 + cntL (repRow t lo hi):=by
  unfold repT
  split
  · simp [T.cnt,cntL]
  · rename_i u e;rw [e];simp [cntL]
  · rw [T.cnt];exact Nat.le_refl _
theorem cnt_repRow (t : T) (lo : Nat) (hi : Int) : cntL (repRow t lo hi)=lo * t.cnt + (if hi < 0 then 1 + t.cnt else (hi.toNat - lo) * (t.cnt + 2)):=by
  rw [repRow,cntL_app,cntL_rep]
  split
  · simp [cntL,starN,T.cnt]
  · rw [cntL_rep]
    simp [maybeN,T.cnt,cntL]
    congr 1;omega
theorem rep_wide1 (q m : Nat) (v : Int) (h : (q : Int)≤v) : ((1 + (m * q + (1 + q)) : Nat) : Int)≤1 + (v * ((m : Int) + 1) + 1):=by
  have h3:=Int.mul_le_mul_of_nonneg_right (a:=(q : Int)) (b:=v) (c:=(m : Int) + 1) h (by omega)
  have h4 : (q : Int) * ((m : Int) + 1)=((m * q : Nat) : Int) + q:=by
    rw [Int.mul_add,Int.mul_one,Int.natCast_mul,Int.mul_comm]
  omega
theorem rep_wide2 (q m x : Nat) (v : Int) (h : (q : Int)≤v) (hm : m≤x) : ((1 + (m * q + (x - m) * (q + 2)) : Nat) : Int)≤1 + (v + 2) * (x : Int):=by
  have h1 : m * q≤m * (q + 2):=Nat.mul_le_mul_left m (by omega)
  have h2 : m * (q + 2) + (x - m) * (q + 2)=x * (q + 2):=by rw [← Nat.add_mul];congr 1;omega
  have h3:=Int.mul_le_mul_of_nonneg_right (a:=(q : Int) + 2) (b:=v + 2) (c:=(x : Int)) (by omega) (by omega)
  have h4 : ((q : Int) + 2) * (x : Int)=((x * (q + 2) : Nat) : Int):=by
    rw [Int.natCast_mul,Int.mul_comm];rfl
  omega
theorem sat_le (v x : Int) (hv : 0≤v) (hx : 1≤x) : v≤v * x:=by
  have:=Int.mul_le_mul_of_nonneg_left (a:=1) (b:=x) (c:=v) hx hv
  omega
theorem xL_wide {k mn mx : Int} (hk : k ≠ 5) : ∀ (l : List T),okL l→(∀ t ∈ l,((xT t).cnt : Int)≤wideT t ∨ wideT t=1073741824)→∀ w : Int,0≤w→w≤1073741824→min (w + cntL (xL l)) 1073741824≤wideL k mn mx l w
  | [],_,_,w,h0,h1=>by simp only [xL,cntL,wideL];omega
  | t :: l,hok,h,w,h0,h1=>by
    simp only [okL] at hok
    have ht:=h t (by simp)
    have hb:=wideT_in t hok.1
    have ih:=xL_wide (mn:=mn) (mx:=mx) hk l hok.2 (fun u hu=>h u (by simp [hu])) (min (w + wideQ k mn mx (wideT t)) 1073741824)
    have hq : wideQ k mn mx (wideT t)=wideT t:=by rw [wideQ,if_neg hk]
    rw [hq] at ih
    have ih:=ih (by omega) (by omega)
    simp only [xL,cntL,wideL,hq]
    omega
mutual
theorem xT_wide : ∀ (t : T),okT t→((xT t).cnt : Int)≤wideT t ∨ wideT t=1073741824
  | .node k a b c d mn mx subs,h=>by
    have hs:=okT_subs h
    have hp:=okT_plain h
    have hR:=okT_R h
    have hx:=xL_wideA subs hs
    have hin:=wideT_in _ h
    by_cases h5 : k=5
    · subst h5
      obtain ⟨u,rfl⟩:=plainT_5 hp
      obtain ⟨hm,hm2⟩:=hR rfl
      have hu:=hx u (by simp)
      have hbu:=wideT_in u hs.1
      have h1:=cnt_repT (xT u) mn.toNat mx
      rw [cnt_repRow] at h1
      rw [xT,if_pos rfl]
      simp only [xL,List.headD_cons]
      simp only [wideT,wideL,wideQ,if_true] at hin ⊢
      obtain ⟨m,rfl⟩:=Int.eq_ofNat_of_zero_le hm.1
      rw [Int.toNat_natCast] at h1 ⊢
      generalize (xT u).cnt=q at *
      generalize wideT u=v at *
      by_cases hx1 : mx=-1
      · subst hx1
        simp only [if_true] at hin ⊢
        rw [if_pos (by omega)] at h1
        have hmm:=sat_le v ((m : Int) + 1) (by omega) (by omega)
        rcases hu with hu | hu
        · have:=rep_wide1 q m v hu
          omega
        · right;omega
      · rw [if_neg hx1] at hin ⊢
        obtain ⟨x,rfl⟩:=Int.eq_ofNat_of_zero_le (show 0≤mx by omega)
        rw [if_neg (by omega),Int.toNat_natCast] at h1
        rcases hu with hu | hu
        · have:=rep_wide2 q m x v hu (by omega)
          omega
        · rcases Nat.eq_zero_or_pos x with h0 | h0
          · subst h0
            have : m=0:=by omega
            subst this
            left;omega
          · have hmm:=sat_le (v + 2) (x : Int) (by omega) (by omega)
            right;omega
    · rw [xT,if_neg h5]
      by_cases h34 : k=3 ∨ k=4
      · rw [if_pos h34]
        have:=xL_wide (mn:=mn) (mx:=mx) h5 subs hs hx 1 (by omega) (by omega)
        simp only [wideT,T.cnt] at hin ⊢
        omega
      · rw [if_neg h34]
        have hk : k=1 ∨ k=2:=by
          have:=(plainT_kind hp).1;omega
        have hz : subs=[]:=plainT_leaf hk hp
        subst hz
        left;simp [wideT,wideL,T.cnt,cntL]
theorem xL_wideA : ∀ (l : List T),okL l→∀ t ∈ l,((xT t).cnt : Int)≤wideT t ∨ wideT t=1073741824
  | [],_=>fun t h=>absurd h (by simp)
  | u :: l,h=>by
    simp only [okL] at h
    have h1:=xT_wide u h.1
    have h2:=xL_wideA l h.2
    intro t ht
    rcases List.mem_cons.1 ht with rfl | ht
    · exact h1
    · exact h2 t ht
end
theorem cntL_take_le (l : List T) (i : Nat) : cntL (l.take i)≤cntL l:=by
  have:=cntL_app (l.take i) (l.drop i)
  rw [List.take_append_drop] at this;omega
end Go.Sv
namespace Go.Sv
open Go Go.Proofs
set_option maxRecDepth 100000
set_option maxHeartbeats 4000000
attribute [local irreducible] W E R KP thenK blockK retK Good xwp aRun
end Go.Sv
namespace Go.Sv
open Go
set_option linter.unusedVariables false
def rhoM (n : Nat) : List (Nat × Nat)→Nat→Nat
  | [],k=>rho n k
  | (b,c) :: σ,k=>cond (Nat.beq k b) c (rhoM n σ k)
def vtM (vs : List Nat) (k : Nat) : Bool:=vs.any (Nat.beq k)
theorem beq_false {k b : Nat} (h : k ≠ b) : Nat.beq k b=false:=by
  cases e : Nat.beq k b with
  | false=>rfl
  | true=>exact absurd (Nat.eq_of_beq_eq_true e) h
theorem rhoM_ge {n k : Nat} : ∀ {σ : List (Nat × Nat)},(σ.all fun p=>Nat.blt p.1 n)=true→¬ k < n→rhoM n σ k=1000000
  | [],_,h=>rho_ge h
  | (b,c) :: σ,hs,h=>by
    simp only [List.all_cons,Bool.and_eq_true] at hs
    have : b < n:=Eq.mp Nat.blt_eq hs.1
    rw [rhoM,beq_false (by omega)]
    exact rhoM_ge hs.2 h
theorem wkM {C : Heap} {Z : Frz} {nx nx' : Nat} {fr fr' : Fr} (σ : List (Nat × Nat)) (vs : List Nat) {rows : List (Nat × List AV)} {hot : List Nat} (h0 : (Nat.blt 0 nx' && (Nat.beq (rhoM nx' σ 0) 0 && (!(vtM vs 0) && σ.all fun p=>Nat.blt p.1 nx')))=true)
    (h : ∀ p ∈ rows,p.1 < nx'∧((vtM vs p.1=true∧p.2=[]) ∨ (vtM vs p.1=false∧∃ r,C (rhoM nx' σ p.1)=some r∧LWk (rhoM nx' σ) (vtM vs) nx' r p.2)))
    (hh : ∀ k ∈ hot,Z (rhoM nx' σ k)=false)
    (hinj : ((rows.map (·.1)).all fun a=>(rows.map (·.1)).all fun b=>Nat.beq a b || (!(Nat.beq (rhoM nx' σ a) (rhoM nx' σ b)) || (vtM vs a || vtM vs b)))=true)
    (hf : FWk (rhoM nx' σ) (vtM vs) nx' fr fr') (hN : Z 1000000=false:=by rfl) :
    Wk ⟨fr,C,Z,nx⟩ ⟨fr',rowsOf rows,Frz.buts nx' hot,nx'⟩:=by
  simp only [Bool.and_eq_true,Bool.not_eq_true'] at h0
  obtain ⟨a1,a2,a3,a4⟩:=h0
  have a1 : 0 < nx':=Eq.mp Nat.blt_eq a1
  refine ⟨rhoM nx' σ,vtM vs,⟨Nat.eq_of_beq_eq_true a2,a3,a1⟩,hf,fun e s he=>?_,fun e e' r1 r2 h1 h2 v1 v2 hee=>?_,fun e hc=>?_⟩
  · obtain ⟨g1,g2⟩:=h _ (rowsOf_mem he)
    refine ⟨g1,?_⟩
    rcases g2 with ⟨q1,q3⟩ | ⟨q1,r,q2,q3⟩
    · simp only at q3
      exact .inl ⟨q1,q3⟩
    · refine .inr ⟨q1,r,q2,q3.len,q3.get,fun hz'=>?_⟩
      by_cases hm : e ∈ hot
      · exact hh e hm
      · have : Frz.buts nx' hot e=true:=buts_lt g1 hm
        simp only at hz'
        rw [this] at hz';cases hz'
  · have k1:=List.all_eq_true.1 hinj e (List.mem_map.2 ⟨_,rowsOf_mem h1,rfl⟩)
    have k2:=List.all_eq_true.1 k1 e' (List.mem_map.2 ⟨_,rowsOf_mem h2,rfl⟩)
    simp only [Bool.or_eq_true,Bool.not_eq_true'] at k2
    rcases k2 with k2 | k2 | k2 | k2
    · exact Nat.eq_of_beq_eq_true k2
    · have : Nat.beq (rhoM nx' σ e) (rhoM nx' σ e')=true:=by rw [hee];exact Nat.beq_refl _
      rw [this] at k2;cases k2
    · rw [v1] at k2;cases k2
    · rw [v2] at k2;cases k2
  · by_cases hlt : e < nx'
    · refine buts_lt hlt fun hm=>?_
      have:=hh e hm
      simp only at hc
      rw [this] at hc;cases hc
    · simp only [rhoM_ge a4 hlt,hN] at hc;cases hc

section
variable {P : Program} {Q : Cont} {fr : Fr} {C : Heap} {Z : Frz} {nx : Nat} {base n d : Nat} {l : List (Nat × XO)} {kp : Option (List Nat)} {x i y s : X}
end
end Go.Sv
namespace Go.Sv
open Go
def isNo : T→Bool
  | .node k a b c d _ _ _=>k == 2 && isZero a b c d
def orW (a b : Int) : Int:=((BitVec.ofInt 64 a ||| BitVec.ofInt 64 b).toNat : Int)
def clsN : T→T
  | .node _ a b c d _ _ _=>.node 2 a b c d 0 0 []
theorem okW_nat {w : Int} (h : okW w) : ∃ n : Nat,w=n∧n < 2 ^ 64:=by
  obtain ⟨n,rfl⟩:=Int.eq_ofNat_of_zero_le h.1
  exact ⟨n,rfl,by have:=h.2;omega⟩
theorem bitG_nat (n x : Nat) : bitG (n : Int) x=n.testBit (x % 64):=by
  unfold bitG
  rw [Nat.testBit_eq_decide_div_mod_eq]
  congr 1
  apply propext
  have : ((n : Int) / 2 ^ (x % 64) % 2=1)↔(((n / 2 ^ (x % 64) % 2 : Nat) : Int)=((1 : Nat) : Int)):=by
    rw [Int.natCast_emod,Int.natCast_ediv,Int.natCast_pow];rfl
  rw [this,Int.ofNat_inj]
theorem orW_nat {a b : Nat} (ha : a < 2 ^ 64) (hb : b < 2 ^ 64) : orW (a : Int) (b : Int)=((a ||| b : Nat) : Int):=by
  unfold orW
  have h1 : (BitVec.ofInt 64 (a : Int)).toNat=a:=by simp [BitVec.toNat_ofInt];omega
  have h2 : (BitVec.ofInt 64 (b : Int)).toNat=b:=by simp [BitVec.toNat_ofInt];omega
  rw [BitVec.toNat_or,h1,h2]
theorem okW_or {a b : Int} (ha : okW a) (hb : okW b) : okW (orW a b):=by
  obtain ⟨m,rfl,hm⟩:=okW_nat ha
  obtain ⟨n,rfl,hn⟩:=okW_nat hb
  rw [orW_nat hm hn]
  have:=Nat.or_lt_two_pow hm hn
  unfold okW;omega
theorem bitG_or {a b : Int} (ha : okW a) (hb : okW b) (x : Nat) : bitG (orW a b) x=(bitG a x || bitG b x):=by
  obtain ⟨m,rfl,hm⟩:=okW_nat ha
  obtain ⟨n,rfl,hn⟩:=okW_nat hb
  rw [orW_nat hm hn,bitG_nat,bitG_nat,bitG_nat,Nat.testBit_or]
theorem bitG_0 (x : Nat) : bitG 0 x=false:=by
  have:=bitG_nat 0 x
  simpa using this
theorem four {P : Nat→Prop} (h0 : P 0) (h1 : P 1) (h2 : P 2) (h3 : P 3) (h4 : ∀ n,4≤n→P n) (n : Nat) : P n:=by
  rcases Nat.lt_or_ge n 4 with h | h
  · match n,h with
    | 0,_=>exact h0
    | 1,_=>exact h1
    | 2,_=>exact h2
    | 3,_=>exact h3
  · exact h4 n h
theorem inG_or {a b c d a' b' c' d' : Int} (ha : okW a) (hb : okW b) (hc : okW c) (hd : okW d) (ha' : okW a') (hb' : okW b') (hc' : okW c') (hd' : okW d') (x : Nat) :
    inG (orW a a') (orW b b') (orW c c') (orW d d') x=(inG a b c d x || inG a' b' c' d' x):=by
  unfold inG
  generalize x / 64=n
  revert n
  refine four ?_ ?_ ?_ ?_ ?_
  · exact bitG_or ha ha' x
  · exact bitG_or hb hb' x
  · exact bitG_or hc hc' x
  · exact bitG_or hd hd' x
  · intro n h
    rw [List.getD_eq_getElem?_getD,List.getElem?_eq_none (by simpa using h),List.getD_eq_getElem?_getD,List.getElem?_eq_none (by simpa using h),List.getD_eq_getElem?_getD,List.getElem?_eq_none (by simpa using h)]
    simp [bitG_0]
theorem inG_0 (x : Nat) : inG 0 0 0 0 x=false:=by
  unfold inG
  generalize x / 64=n
  revert n
  refine four (bitG_0 x) (bitG_0 x) (bitG_0 x) (bitG_0 x) ?_
  intro n h
  rw [List.getD_eq_getElem?_getD,List.getElem?_eq_none (by simpa using h)]
  simp [bitG_0]

def okS : T→Prop
  | .node _ a b c d _ _ _=>okW a∧okW b∧okW c∧okW d
def AltI (s : List T × Option Nat) : Prop:=∀ i,s.2=some i→∃ a b c d,s.1[i]?=some (.node 2 a b c d 0 0 [])∧okW a∧okW b∧okW c∧okW d
theorem AltI.lt {s : List T × Option Nat} (h : AltI s) {i : Nat} (hi : s.2=some i) : i < s.1.length:=by
  obtain ⟨a,b,c,d,h,_⟩:=h i hi
  exact (List.getElem?_eq_some_iff.1 h).1
theorem okT_S {t : T} (h : okT t) : okS t:=by
  obtain ⟨k,a,b,c,d,mn,mx,subs⟩:=t
  simp only [okT,okN] at h
  exact ⟨h.1.1,h.1.2.1,h.1.2.2.1,h.1.2.2.2.1⟩
end Go.Sv
namespace Go.Sv
open Go
def AltN (l : List T) (at' : Option Nat) : Prop :=
  (∀ j,(∃ u,l[j]?=some u∧u.kind=2)↔at'=some j)∧(∀ u ∈ l,isNo u=false)∧l.Nodup∧(∀ u ∈ l,u.kind=2→clsN u=u∧okS u)
theorem AltN.lt {l : List T} {q : Option Nat} (h : AltN l q) {j : Nat} (hj : q=some j) : j < l.length:=by
  obtain ⟨u,hu,_⟩:=(h.1 j).2 hj
  exact (List.getElem?_eq_some_iff.1 hu).1
end Go.Sv
namespace Go.Sv
open Go
theorem powL_no {P : List Nat→Prop} (h : ∀ w,¬ P w) {r : Nat} (hr : 0 < r) (w : List Nat) : ¬ powL P r w:=by
  cases r with
  | zero=>omega
  | succ r=>rintro ⟨u,v,_,h1,_⟩;exact h u h1
theorem powL_one (P : List Nat→Prop) (w : List Nat) : powL P 1 w↔P w:=by
  simp only [powL]
  constructor
  · rintro ⟨u,v,rfl,h,rfl⟩;simpa using h
  · intro h;exact ⟨w,[],by simp,h,rfl⟩
def ob (k : Int) (t : T) : Int:=openT t + if roundG k t.kind=true then 1 else 0
mutual
theorem open_nonneg : ∀ t : T,okT t→0≤openT t
  | .node k a b c d mn mx subs,h=>by
    rw [openT,if_pos (okT_plain h)]
    exact openL_nonneg k subs (okT_subs h) 0 (Int.le_refl _)
theorem openL_nonneg (k : Int) : ∀ l : List T,okL l→∀ m : Int,0≤m→0≤openL k l m
  | [],_,m,h=>h
  | t :: l,ho,m,h=>by
    simp only [okL] at ho
    have:=open_nonneg t ho.1
    rw [openL,if_neg (by omega)]
    exact openL_nonneg k l ho.2 _ (by omega)
end
theorem openL_le (k : Int) : ∀ (l : List T),okL l→∀ (m B : Int),openL k l m≤B↔m≤B∧∀ u ∈ l,ob k u≤B
  | [],_,m,B=>by simp [openL]
  | t :: l,ho,m,B=>by
    simp only [okL] at ho
    have:=open_nonneg t ho.1
    rw [openL,if_neg (by omega),openL_le k l ho.2]
    have e : (if roundG k t.kind=true then openT t + 1 else openT t)=ob k t:=by
      unfold ob;split<;>omega
    rw [e]
    simp only [List.mem_cons,forall_eq_or_imp]
    constructor
    · rintro ⟨h1,h2⟩;exact ⟨by omega,by omega,h2⟩
    · rintro ⟨h1,h2,h3⟩;exact ⟨by omega,h3⟩
theorem openT_le {t : T} (h : okT t) (B : Int) : openT t≤B↔0≤B∧∀ u ∈ t.subs,ob t.kind u≤B:=by
  obtain ⟨k,a,b,c,d,mn,mx,subs⟩:=t
  rw [openT,if_pos (okT_plain h)]
  exact openL_le k subs (okT_subs h) 0 B
theorem ob_le (k : Int) (t : T) : openT t≤ob k t∧ob k t≤openT t + 1:=by
  unfold ob;split<;>omega
end Go.Sv
namespace Go.Sv
open Go
set_option linter.unusedVariables false
def addB (ws : List Int) (x : Nat) : List Int:=if bitG (ws.getD (x / 64) 0) x=true then ws else ws.set (x / 64) (ws.getD (x / 64) 0 + 2 ^ (x % 64))
def setWs (l : List Nat) : List Int:=l.foldl addB [0,0,0,0]
def inWs (ws : List Int) (x : Nat) : Bool:=bitG (ws.getD (x / 64) 0) x
def okWs (ws : List Int) : Prop:=ws.length=4∧∀ w ∈ ws,okW w
theorem okWs_getD {ws : List Int} (h : okWs ws) (j : Nat) : okW (ws.getD j 0):=by
  rw [List.getD_eq_getElem?_getD]
  cases e : ws[j]? with
  | none=>exact okW_0
  | some w=>exact h.2 w (List.mem_of_getElem? e)
theorem add_bit {w k : Nat} (hw : w < 2 ^ 64) (hk : k < 64) (hb : w.testBit k=false) : w + 2 ^ k < 2 ^ 64∧∀ j,(w + 2 ^ k).testBit j=(w.testBit j || j == k):=by
  have h0 : w / 2 ^ k % 2=0:=by
    rw [Nat.testBit_eq_decide_div_mod_eq] at hb
    simp at hb;omega
  have hr : w % 2 ^ k < 2 ^ k:=Nat.mod_lt _ (Nat.two_pow_pos k)
  have e1 : w=2 ^ k * (2 * (w / 2 ^ k / 2)) + w % 2 ^ k:=by
    have:=Nat.div_add_mod w (2 ^ k)
    have h2 : 2 * (w / 2 ^ k / 2)=w / 2 ^ k:=by omega
    rw [h2];omega
  have e2 : w + 2 ^ k=2 ^ k * (2 * (w / 2 ^ k / 2) + 1) + w % 2 ^ k:=by
    rw [Nat.mul_add,Nat.mul_one];omega
  generalize hq : w / 2 ^ k / 2=q at e1 e2
  generalize w % 2 ^ k=r at hr e1 e2
  constructor
  · have h64 : 2 ^ 64=2 ^ k * 2 ^ (64 - k):=by rw [← Nat.pow_add];congr 1;omega
    have hev : ∃ m,2 ^ (64 - k)=2 * m:=⟨2 ^ (63 - k),by rw [show 64 - k=63 - k + 1 by omega,Nat.pow_succ,Nat.mul_comm]⟩
    obtain ⟨m,hm⟩:=hev
    have hlt : 2 * q < 2 * m:=by
      have : 2 ^ k * (2 * q) < 2 ^ k * (2 * m):=by rw [← hm,← h64];omega
      exact Nat.lt_of_mul_lt_mul_left this
    have h3 : 2 ^ k * (2 * q + 1) + 2 ^ k≤2 ^ k * (2 * m):=by
      have : 2 ^ k * (2 * q + 1) + 2 ^ k=2 ^ k * (2 * q + 2):=by simp only [Nat.mul_add];omega
      rw [this]
      exact Nat.mul_le_mul_left _ (by omega)
    rw [h64,hm]
    omega
  · intro j
    have l1 : w.testBit j=if j < k then r.testBit j else (2 * q).testBit (j - k):=by
      rw [e1];exact Nat.testBit_two_pow_mul_add _ hr j
    have l2 : (w + 2 ^ k).testBit j=if j < k then r.testBit j else (2 * q + 1).testBit (j - k):=by
      rw [e2];exact Nat.testBit_two_pow_mul_add _ hr j
    rw [l1,l2]
    by_cases hj : j < k
    · rw [if_pos hj,if_pos hj]
      have : (j == k)=false:=by simp;omega
      rw [this,Bool.or_false]
    · rw [if_neg hj,if_neg hj]
      rcases Nat.eq_or_lt_of_le (Nat.le_of_not_lt hj) with h | h
      · subst h;simp
      · obtain ⟨i,hi⟩ : ∃ i,j - k=i + 1:=⟨j - k - 1,by omega⟩
        have : (j == k)=false:=by simp;omega
        rw [hi,this,Bool.or_false,Nat.testBit_succ,Nat.testBit_succ]
        congr 1;omega
theorem two_pow_int (k : Nat) : ((2 : Int) ^ k)=((2 ^ k : Nat) : Int):=by rw [Int.natCast_pow];rfl
theorem addW_ok {w : Int} {x : Nat} (h : okW w) (hb : bitG w x=false) : okW (w + 2 ^ (x % 64))∧∀ y,bitG (w + 2 ^ (x % 64)) y=(bitG w y || (y % 64 == x % 64)):=by
  obtain ⟨n,rfl,hn⟩:=okW_nat h
  rw [bitG_nat] at hb
  obtain ⟨h1,h2⟩:=add_bit hn (Nat.mod_lt x (by omega)) hb
  have e : ((n : Int) + 2 ^ (x % 64))=((n + 2 ^ (x % 64) : Nat) : Int):=by rw [two_pow_int,Int.natCast_add]
  rw [e]
  refine ⟨?_,fun y=>by rw [bitG_nat,bitG_nat,h2]⟩
  generalize n + 2 ^ (x % 64)=m at h1
  unfold okW;omega
theorem addB_ok {ws : List Int} (h : okWs ws) {x : Nat} (hx : x < 256) : okWs (addB ws x)∧∀ y,y < 256→inWs (addB ws x) y=(inWs ws y || y == x):=by
  unfold addB
  split
  · rename_i hb
    refine ⟨h,fun y _=>?_⟩
    by_cases e : y=x
    · subst e;unfold inWs;rw [hb];rfl
    · have : (y == x)=false:=by simpa using e
      rw [this,Bool.or_false]
  · rename_i hb
    have hb : bitG (ws.getD (x / 64) 0) x=false:=by simpa using hb
    obtain ⟨h1,h2⟩:=addW_ok (okWs_getD h (x / 64)) hb
    have hlt : x / 64 < ws.length:=by rw [h.1];omega
    refine ⟨⟨by rw [List.length_set];exact h.1,fun w hw=>?_⟩,fun y hy=>?_⟩
    · rcases List.mem_or_eq_of_mem_set hw with hw | rfl
      · exact h.2 w hw
      · exact h1
    · unfold inWs
      by_cases e : x / 64=y / 64
      · rw [List.getD_eq_getElem?_getD,← e,List.getElem?_set_self hlt,Option.getD_some,h2]
        have : (y % 64 == x % 64)=(y == x):=by
          rw [Bool.eq_iff_iff];simp;omega
        rw [this]
      · rw [List.getD_eq_getElem?_getD,List.getElem?_set_ne e,← List.getD_eq_getElem?_getD]
        have : (y == x)=false:=by simp;omega
        rw [this,Bool.or_false]
theorem okWs_0 : okWs [0,0,0,0]:=⟨rfl,fun w h=>by simp at h;rw [h];exact okW_0⟩
theorem setWs_ok' : ∀ (l : List Nat) (ws : List Int),okWs ws→(∀ x ∈ l,x < 256)→okWs (l.foldl addB ws)∧∀ y,y < 256→(inWs (l.foldl addB ws) y=true↔inWs ws y=true ∨ y ∈ l)
  | [],ws,h,_=>⟨h,fun y _=>by simp⟩
  | x :: l,ws,h,hx=>by
    obtain ⟨h1,h2⟩:=addB_ok h (hx x (by simp))
    obtain ⟨h3,h4⟩:=setWs_ok' l (addB ws x) h1 (fun y hy=>hx y (by simp [hy]))
    refine ⟨h3,fun y hy=>?_⟩
    rw [List.foldl_cons,h4 y hy,h2 y hy,Bool.or_eq_true,beq_iff_eq,List.mem_cons,or_assoc]
theorem setWs_ok {l : List Nat} (h : ∀ x ∈ l,x < 256) : okWs (setWs l)∧∀ y,y < 256→(inWs (setWs l) y=true↔y ∈ l):=by
  obtain ⟨h1,h2⟩:=setWs_ok' l [0,0,0,0] okWs_0 h
  refine ⟨h1,fun y hy=>?_⟩
  unfold setWs
  rw [h2 y hy]
  have : inWs [0,0,0,0] y=false:=inG_0 y
  rw [this];simp
theorem setWs_snoc (l : List Nat) (x : Nat) : setWs (l++[x])=addB (setWs l) x:=by simp [setWs,List.foldl_append]
theorem words_ext {ws vs : List Int} (h : okWs ws) (g : okWs vs) (e : ∀ y,y < 256→inWs ws y=inWs vs y) : ws=vs:=by
  refine List.ext_getElem (by rw [h.1,g.1]) fun j h1 h2=>?_
  have hj : j < 4:=by rw [h.1] at h1;exact h1
  obtain ⟨m,hm,hm2⟩:=okW_nat (h.2 _ (List.getElem_mem h1))
  obtain ⟨n,hn,hn2⟩:=okW_nat (g.2 _ (List.getElem_mem h2))
  rw [hm,hn]
  congr 1
  refine Nat.eq_of_testBit_eq fun i=>?_
  rcases Nat.lt_or_ge i 64 with hi | hi
  · have:=e (64 * j + i) (by omega)
    unfold inWs at this
    rw [show (64 * j + i) / 64=j by omega,List.getD_eq_getElem?_getD,List.getElem?_eq_getElem h1,List.getD_eq_getElem?_getD,List.getElem?_eq_getElem h2,Option.getD_some,Option.getD_some,hm,hn,bitG_nat,bitG_nat,show (64 * j + i) % 64=i by omega] at this
    exact this
  · rw [Nat.testBit_lt_two_pow (Nat.lt_of_lt_of_le hm2 (Nat.pow_le_pow_right (by omega) hi)),Nat.testBit_lt_two_pow (Nat.lt_of_lt_of_le hn2 (Nat.pow_le_pow_right (by omega) hi))]
def listTo (a b c d : Int) : Nat→List Nat
  | 0=>[]
  | m + 1=>if inG a b c d m=true then listTo a b c d m++[m] else listTo a b c d m
theorem mem_listTo (a b c d : Int) (y : Nat) : ∀ m,y ∈ listTo a b c d m↔y < m∧inG a b c d y=true
  | 0=>by simp [listTo]
  | m + 1=>by
    rw [listTo]
    have ih:=mem_listTo a b c d y m
    split
    · rename_i h
      rw [List.mem_append,ih,List.mem_singleton]
      constructor
      · rintro (⟨h1,h2⟩ | rfl)
        · exact ⟨by omega,h2⟩
        · exact ⟨by omega,h⟩
      · rintro ⟨h1,h2⟩
        by_cases e : y=m
        · exact .inr e
        · exact .inl ⟨by omega,h2⟩
    · rename_i h
      rw [ih]
      constructor
      · rintro ⟨h1,h2⟩;exact ⟨by omega,h2⟩
      · rintro ⟨h1,h2⟩
        refine ⟨?_,h2⟩
        rcases Nat.lt_or_ge y m with h3 | h3
        · exact h3
        · have : y=m:=by omega
          subst this;exact absurd h2 h
theorem listTo_len (a b c d : Int) : ∀ m,(listTo a b c d m).length≤m
  | 0=>by simp [listTo]
  | m + 1=>by
    have:=listTo_len a b c d m
    rw [listTo]
    split
    · rw [List.length_append];simp;omega
    · omega
def encJ (l : List Nat) : List Int:=List.map (fun (x : Nat)=>(x : Int)) l
theorem encJ_app (l r : List Nat) : encJ (l++r)=encJ l++encJ r:=List.map_append
theorem encJ_len (l : List Nat) : (encJ l).length=l.length:=List.length_map _

section
variable {P : Program} {Q : Cont} {fr : Fr} {C : Heap} {Z : Frz} {nx : Nat} {base n d : Nat} {l : List (Nat × XO)} {kp : Option (List Nat)} {x i y s : X} {j c : Nat}
theorem r_quoI {e : Int} (hx : x.ev fr=.i e) (hy : y.ev fr=.i 64) (he : e=(c : Nat)) (hc : c < 1000000) (k : R P l base kp Q nx (fr.put d (.i ((c / 64 : Nat) : Int))) C Z) : R P ((n,⟨some d,none,.arith .quo x y⟩) :: l) base kp Q nx fr C Z:=by
  subst he
  refine r_p ?_ k
  have e : IntKind.wrap .i64 (Int.tdiv (c : Int) 64)=((c / 64 : Nat) : Int):=by
    rw [Int.tdiv_eq_ediv_of_nonneg (by omega),wrap_in (by omega)];omega
  simp only [xp,hx,hy,arith]
  exact congrArg (fun z=>some (AV.d (DV.val (Value.int .i64 z)))) e
theorem r_remI {e : Int} (hx : x.ev fr=.i e) (hy : y.ev fr=.i 64) (he : e=(c : Nat)) (k : R P l base kp Q nx (fr.put d (.i ((c % 64 : Nat) : Int))) C Z) : R P ((n,⟨some d,none,.arith .rem x y⟩) :: l) base kp Q nx fr C Z:=by
  subst he
  refine r_p ?_ k
  have e : Int.tmod (c : Int) 64=((c % 64 : Nat) : Int):=by
    rw [Int.tmod_eq_emod_of_nonneg (by omega)];omega
  simp only [xp,hx,hy,arith]
  exact congrArg (fun z=>some (AV.d (DV.val (Value.int .i64 z)))) e
theorem r_shrI {w : Int} (hx : x.ev fr=.d (.val (.int .u64 w))) (hy : y.ev fr=.i (c : Nat)) (hw : okW w) (hc : c < 64) (k : R P l base kp Q nx (fr.put d (.d (.val (.int .u64 (w / 2 ^ c))))) C Z) : R P ((n,⟨some d,none,.arith .shr x y⟩) :: l) base kp Q nx fr C Z:=by
  refine r_p ?_ k
  simp only [xp,hx,hy,arith]
  simp [IntKind.bits]
  rw [Nat.min_eq_left (by omega),Int.fdiv_eq_ediv_of_nonneg _ (by exact Int.le_of_lt (Int.pow_pos (by omega)))]
theorem r_shlI (hx : x.ev fr=.d (.val (.int .u64 1))) (hy : y.ev fr=.i (c : Nat)) (hc : c < 64) (k : R P l base kp Q nx (fr.put d (.d (.val (.int .u64 (2 ^ c))))) C Z) : R P ((n,⟨some d,none,.arith .shl x y⟩) :: l) base kp Q nx fr C Z:=by
  refine r_p ?_ k
  have e : IntKind.wrap .u64 (1 * 2 ^ (min ((c : Int).toNat) 64))=2 ^ c:=by
    rw [Int.toNat_natCast,Nat.min_eq_left (by omega),Int.one_mul,two_pow_int]
    have h1 : 2 ^ c < 2 ^ 64:=Nat.pow_lt_pow_right (by omega) hc
    simp only [IntKind.wrap,IntKind.signed,IntKind.bits]
    generalize 2 ^ c=z at *
    simp;omega
  have h0 : (0 : Int)≤(c : Int):=by omega
  simp only [xp,hx,hy,arith,h0,if_true]
  exact congrArg (fun z=>some (AV.d (DV.val (Value.int .u64 z)))) e
theorem r_addW {a b : Int} (hx : x.ev fr=.d (.val (.int .u64 a))) (hy : y.ev fr=.d (.val (.int .u64 b))) (h : okW (a + b)) (k : R P l base kp Q nx (fr.put d (.d (.val (.int .u64 (a + b))))) C Z) : R P ((n,⟨some d,none,.arith .add x y⟩) :: l) base kp Q nx fr C Z:=by
  refine r_p ?_ k
  have e : IntKind.wrap .u64 (a + b)=a + b:=by
    obtain ⟨h1,h2⟩:=h
    simp [IntKind.wrap,IntKind.signed,IntKind.bits];omega
  simp only [xp,hx,hy,arith,if_true]
  exact congrArg (fun z=>some (AV.d (DV.val (Value.int .u64 z)))) e
def encW (ws : List Int) : List AV:=ws.map fun w=>.d (.val (.int .u64 w))
theorem encW_len (ws : List Int) : (encW ws).length=ws.length:=List.length_map _
theorem encW_isD (ws : List Int) : (encW ws).all AV.isD=true:=by simp [encW,AV.isD]
theorem r_ldWs {b : Nat} {ws : List Int} (hx : x.ev fr=.ptrL b (0 + j)) (hC : C b=some (encW ws)) (hj : j < ws.length) (k : R P l base kp Q nx (fr.put d (.d (.val (.int .u64 (ws.getD j 0))))) C Z) : R P ((n,⟨some d,none,.load none x⟩) :: l) base kp Q nx fr C Z:=by
  refine r_l ?_ k
  simp only [xl,hx,rowOf,hC,Option.map_some,Option.bind_some,subA,Nat.zero_add,encW,List.getElem?_map,List.getElem?_eq_getElem hj,List.getD_eq_getElem?_getD,Option.getD_some]
theorem r_stWs {a : X} {b : Nat} {w : Int} {ws : List Int} (ha : a.ev fr=.ptrL b (0 + j)) (hx : x.ev fr=.d (.val (.int .u64 w))) (hC : C b=some (encW ws)) (hz : Z b=false) (hj : j < ws.length) (k : R P l base kp Q nx fr (C.put b (encW (ws.set j w))) Z) : R P ((n,⟨none,none,.store 1 a x⟩) :: l) base kp Q nx fr C Z:=by
  refine r_stL (cs:=[.d (.val (.int .u64 w))]) ha hC hx rfl hz ?_ ?_ k
  · simp [AV.one,encW_len];omega
  · have : ws.set j w=ws.take j++w :: ws.drop (j + 1):=by rw [List.set_eq_take_append_cons_drop,if_pos hj]
    rw [this]
    simp [splice,encW,List.map_take,List.map_drop]
theorem r_eqX {a b c e a' b' c' e' : Int} {q r : Bool} (hx : x.ev fr=.agg [.d (.val (.int .u64 a)),.d (.val (.int .u64 b)),.d (.val (.int .u64 c)),.d (.val (.int .u64 e))]) (hy : y.ev fr=.agg [.d (.val (.int .u64 a')),.d (.val (.int .u64 b')),.d (.val (.int .u64 c')),.d (.val (.int .u64 e'))]) (h : (if q then !(a == a' && (b == b' && (c == c' && e == e'))) else (a == a' && (b == b' && (c == c' && e == e'))))=r) (k : R P l base kp Q nx (fr.put d (.b r)) C Z) : R P ((n,⟨some d,none,.eqAgg 4 q x y⟩) :: l) base kp Q nx fr C Z:=by
  subst h
  refine r_p ?_ k
  simp only [xp,hx,hy,eqCells,List.length_cons,List.length_nil,if_true,Option.map_some]
  simp
end
end Go.Sv
namespace Go.Sv
open Go
set_option linter.unusedVariables false
section
variable {P : Program} {Q : Cont} {fr : Fr} {C : Heap} {Z : Frz} {nx : Nat} {base n d : Nat} {l : List (Nat × XO)} {kp : Option (List Nat)} {x i y s : X}
end
end Go.Sv
namespace Go.Sv
open Go
set_option linter.unusedVariables false
end Go.Sv
namespace Go.Sv
open Go
set_option linter.unusedVariables false
abbrev Q4:=Int × Int × Int × Int
def encQ (q : Q4) : List DV:=[.val (.int .u64 q.1),.val (.int .u64 q.2.1),.val (.int .u64 q.2.2.1),.val (.int .u64 q.2.2.2)]
def encK : List Q4→List DV
  | []=>[]
  | q :: l=>encQ q++encK l
def quadA (q : Q4) : AV:=.agg [.d (.val (.int .u64 q.1)),.d (.val (.int .u64 q.2.1)),.d (.val (.int .u64 q.2.2.1)),.d (.val (.int .u64 q.2.2.2))]
theorem encK_len : ∀ l : List Q4,(encK l).length=l.length * 4
  | []=>rfl
  | q :: l=>by simp only [encK,encQ,List.length_append,List.length_cons,List.length_nil,encK_len l];omega
theorem encK_app : ∀ a b : List Q4,encK (a++b)=encK a++encK b
  | [],b=>rfl
  | q :: a,b=>by simp only [List.cons_append,encK,encK_app a b,List.append_assoc]
theorem encK_isD (l : List Q4) : ((encK l).map AV.d).all AV.isD=true:=by rw [List.all_map];simp [AV.isD]
theorem encK_one (l : List Q4) : ((encK l).map AV.d).all AV.one=true:=by rw [List.all_map];simp [AV.one]
theorem encK_norm : ∀ l : List Q4,(encK l).map DV.norm=encK l
  | []=>rfl
  | q :: l=>by simp only [encK,List.map_append,encK_norm l];rfl
theorem encK_at : ∀ (l : List Q4) (j : Nat) (q : Q4),l[j]?=some q→((encK l).drop (j * 4)).take 4=encQ q
  | [],j,q,h=>by simp at h
  | p :: l,0,q,h=>by
    simp at h;subst h
    simp [encK,encQ]
  | p :: l,j + 1,q,h=>by
    have:=encK_at l j q (by simpa using h)
    rw [encK,List.drop_append,List.drop_of_length_le (by simp [encQ];omega),List.nil_append,show (j + 1) * 4 - (encQ p).length=j * 4 by simp [encQ];omega]
    exact this
section
variable {P : Program} {Q : Cont} {fr : Fr} {C : Heap} {Z : Frz} {nx : Nat} {base n d : Nat} {l : List (Nat × XO)} {kp : Option (List Nat)} {x i y s : X}
theorem r_mkK {id : Nat} {q : Q4} (hx : x.ev fr=quadA q) (hid : base + n=id) (k : R P l base kp Q nx (fr.put d (.slL id 0 1 4)) (C.put id ((encK [q]).map AV.d)) Z) : R P ((n,⟨some d,none,.mkrow [(.int .u64 0),(.int .u64 0),(.int .u64 0),(.int .u64 0)] 1 4 [(0,4,x)]⟩) :: l) base kp Q nx fr C Z:=by
  subst hid
  refine r_n (v:=.slL (base + n) 0 1 4) (r:=(encK [q]).map AV.d) ?_ k
  simp only [xn,List.map_cons,List.map_nil,hx]
  rfl
theorem r_appKD {b id m j : Nat} {K L : List Q4} (hs : s.ev fr=.slL b 0 m 4) (hx : x.ev fr=.d (.sl (encK L) j)) (hC : C b=some ((encK K).map AV.d)) (hm : K.length=m) (hj : L.length=j) (hz : Z b=false) (hid : base + n=id) (hb : m + j≤100000000)
    (k : R P l base kp Q nx (fr.put d (.slL id 0 (m + j) 4)) ((C.del b).put id ((encK (K++L)).map AV.d)) Z) : R P ((n,⟨some d,none,.app [(.int .u64 0),(.int .u64 0),(.int .u64 0),(.int .u64 0)] 32 s x⟩) :: l) base kp Q nx fr C Z:=by
  subst hid hm hj
  refine r_w (v:=.slL (base + n) 0 (K.length + L.length) 4) (C':=(C.del b).put (base + n) ((encK (K++L)).map AV.d)) ?_ k
  have hl:=encK_len K
  have h2 : srcOf C 4 (.d (.sl (encK L) L.length))=some ((encK L).map AV.d,L.length):=by
    unfold srcOf
    split
    · rename_i e;cases e
    · rename_i e;cases e;rw [if_pos (encK_len L)]
    · rename_i e;cases e
    · rename_i h1 h2 h3;exact absurd rfl (h2 _ _)
  simp only [xw,List.length_cons,List.length_nil,Nat.zero_add,Nat.reduceAdd,hx,h2,Option.bind_some,hs,hC]
  rw [if_pos (encK_one L),if_pos ⟨trivial,hz,by rw [List.length_map];omega,by omega⟩,List.take_of_length_le (by rw [List.length_map];omega),encK_app,List.map_append]
theorem retLK {live : Bool} {b m : Nat} {p : List Q4} (hC : C b=some ((encK p).map AV.d)) (hm : p.length=m) : RetOK C Z (tupOf [.slL b 0 m 4]) live (.d (.sl (encK p) m)) none none:=by
  refine .data _ ?_
  subst hm
  have hl:=encK_len p
  simp only [tupOf,convT,convA,convC]
  rcases Nat.eq_zero_or_pos p.length with h | h
  · have:=List.length_eq_zero_iff.1 h
    subst this
    rfl
  · rw [if_neg (by omega),if_neg (by simp)]
    simp only [hC,Option.bind_some]
    rw [if_pos (by rw [List.length_map];omega),List.drop_zero,List.take_of_length_le (by rw [List.length_map];omega),mapO_d,encK_norm]
    rfl
theorem r_ixK {K : List Q4} {j m : Nat} {e : Int} (hx : x.ev fr=.d (.sl (encK K) m)) (hm : K.length=m) (hi : i.ev fr=.i e) (he : e=(j : Nat)) (hj : j < m) (k : R P l base kp Q nx (fr.put d (.d (.ptr (encK K) (j * 4)))) C Z) : R P ((n,⟨some d,none,.idxS 4 x i⟩) :: l) base kp Q nx fr C Z:=by
  subst he
  subst hm
  refine r_p ?_ k
  have hne : encK K ≠ []:=fun h=>by
    have:=congrArg List.length h
    rw [encK_len,List.length_nil] at this;omega
  have hl:=encK_len K
  simp [xp,hx,hi,hne,intIn,hj]
theorem r_ldK {K : List Q4} {j : Nat} {q : Q4} (hx : x.ev fr=.d (.ptr (encK K) (j * 4))) (hp : K[j]?=some q) (k : R P l base kp Q nx (fr.put d (quadA q)) C Z) : R P ((n,⟨some d,none,.load (some 4) x⟩) :: l) base kp Q nx fr C Z:=by
  refine r_l ?_ k
  have h:=encK_at K j q hp
  have hl:=encK_len K
  have hj : j < K.length:=(List.getElem?_eq_some_iff.1 hp).1
  simp only [xl,hx,rowOf,Option.bind_some,subA]
  rw [if_pos (by rw [List.length_map];omega),← List.map_drop,← List.map_take,h]
  rfl
end
mutual
def setsT : T→List Q4
  | .node k a b c d _ _ subs=>if k=2 then [(a,b,c,d)] else setsL subs
def setsL : List T→List Q4
  | []=>[]
  | t :: l=>setsT t++setsL l
end
mutual
theorem setsT_len : ∀ t : T,(setsT t).length≤t.cnt
  | .node k a b c d mn mx subs=>by
    have:=setsL_len subs
    rw [setsT,T.cnt]
    split
    · simp
    · omega
theorem setsL_len : ∀ l : List T,(setsL l).length≤cntL l
  | []=>Nat.le_refl _
  | t :: l=>by
    have h1:=setsT_len t
    have h2:=setsL_len l
    rw [setsL,cntL,List.length_append];omega
end
theorem setsL_app : ∀ a b : List T,setsL (a++b)=setsL a++setsL b
  | [],b=>rfl
  | t :: a,b=>by rw [List.cons_append,setsL,setsL_app a b,setsL,List.append_assoc]
theorem setsL_take (l : List T) (i : Nat) (h : i < l.length) : setsL (l.take (i + 1))=setsL (l.take i)++setsT l[i]:=by
  rw [List.take_succ_eq_append_getElem h,setsL_app];simp [setsL]
end Go.Sv
namespace Go.Sv
open Go Go.WideMaps Go.ChangeMaps
set_option linter.unusedVariables false

theorem cell_cells {w : World} {a : Addr} {v : Value} (h : w.cell? a=some v) : ∃ c e p,w.heap[a.block]?=some (.cells c e p):=by
  unfold World.cell? at h
  split at h
  · rename_i c e p hq;exact ⟨c,e,p,hq⟩
  · cases h
theorem shape_cells {w : World} {b : Nat} {s : TypeId × Nat} (h : w.shape? b=some s) : ∃ c e p,w.heap[b]?=some (.cells c e p):=by
  unfold World.shape? at h
  split at h
  · rename_i c e p hq;exact ⟨c,e,p,hq⟩
  · cases h
def SameCells (w w' : World) : Prop:=∀ (b : Nat) (c : Array Value) (e : TypeId) (p : Nat × Nat),w.heap[b]?=some (Obj.cells c e p)→w'.heap[b]?=some (Obj.cells c e p)
theorem SameCells.cell {w w' : World} (h : SameCells w w') {a : Addr} {v : Value} (hc : w.cell? a=some v) : w'.cell? a=some v:=by
  obtain ⟨c,e,p,hq⟩:=cell_cells hc
  have h2:=h _ _ _ _ hq
  unfold World.cell? at hc ⊢
  rw [hq] at hc
  rw [h2]
  exact hc
theorem SameCells.shape {w w' : World} (h : SameCells w w') {b : Nat} {s : TypeId × Nat} (hc : w.shape? b=some s) : w'.shape? b=some s:=by
  obtain ⟨c,e,p,hq⟩:=shape_cells hc
  have h2:=h _ _ _ _ hq
  unfold World.shape? at hc ⊢
  rw [hq] at hc
  rw [h2]
  exact hc
theorem RD.monoC {w w' : World} (hw : SameCells w w') {A : Nat→Prop} {v : Value} {x : DV} (h : RD w A v x) : RD w' A v x:=by
  induction h with
  | val v h=>exact .val v h
  | ptr blk b0 off cs f hA0 hn hc hr ih=>exact .ptr blk b0 off cs f hA0 hn (fun j hj=>hw.cell (hc j hj)) ih
  | sl blk b0 len cap cs f hA0 hn hl hc hr ih=>exact .sl blk b0 len cap cs f hA0 hn hl (fun j hj=>hw.cell (hc j hj)) ih
  | sl0 a cap=>exact .sl0 a cap
  | fn f vs caps hs hr ih=>exact .fn f vs caps hs ih
theorem RA.monoC {w w' : World} (hw : SameCells w w') {A : Nat→Prop} {μ : Nat→Option Nat} {U : Nat→Prop} {v : Value} {x : AV} (h : RA w A μ U v x) : RA w' A μ U v x:=by
  induction h with
  | d v x h=>exact .d v x (h.monoC hw)
  | agg vs cs hs hr ih=>exact .agg vs cs hs ih
  | tup vs cs hs hr ih=>exact .tup vs cs hs ih
  | ptrL b off blk h1 h2=>exact .ptrL b off blk h1 h2
  | slL b off len sz blk cap n e h1 h2 h3 h4 h5=>exact .slL b off len sz blk cap n e h1 h2 h3 (hw.shape h4) h5
  | slN b sz h1 h2=>exact .slN b sz h1 h2
  | fnL f vs cs h1 hr ih=>exact .fnL f vs cs h1 ih
  | dead v=>exact .dead v
section
variable {D : List Deferred} {P : Program} {md : FuncId→Option Nat × Bool} {od : Nat→List (List Nat) × List Nat × Option (List Nat)} {nt : Nat} {w0 : World} {S Wr : Nat→Prop} {pb : Option (Value × AV)} {Ub : Nat→Prop} {fr : Fr} {C : Heap} {Z : Frz} {a : Act} {w w' : World}
theorem Sim.world (hs : Sim D pb w0 S Wr nt Ub fr C Z a w) (hw : SameCells w w') (h1 : w'.os=w.os) (h2 : w'.tape=w.tape) (h3 : w'.output=w.output) (h4 : w.heap.size≤w'.heap.size) (h5 : ∀ k,k < w0.heap.size→w'.heap[k]?=w.heap[k]?) : Sim D pb w0 S Wr nt Ub fr C Z a w':=by
  obtain ⟨⟨μ,U,hH,hf,hU,hpb⟩,hsz,hdf⟩:=hs
  refine ⟨⟨μ,U,⟨h1.trans hH.os,h2.trans hH.tape,h3.trans hH.output,Nat.le_trans hH.size h4,fun k hk hn=>(h5 k hk).trans (hH.keep k hk hn),hH.used,?_,hH.own,hH.inj⟩,fun s=>(hf s).monoC hw,hU,fun p hp=>⟨(hpb p hp).1.monoC hw,(hpb p hp).2⟩⟩,hsz,hdf⟩
  intro b r hb
  rcases hH.row b r hb with h | ⟨blk,c,e,g1,g2,g3,g4⟩
  · exact .inl h
  · exact .inr ⟨blk,c,e,g1,hw _ _ _ _ g2,g3,fun j hj=>(g4 j hj).monoC hw⟩
theorem Sim.newMap (hs : Sim D pb w0 S Wr nt Ub fr C Z a w) : Sim D pb w0 S Wr nt Ub fr C Z a (w.alloc (.map #[] 0)):=by
  have hsz : w0.heap.size≤w.heap.size:=by obtain ⟨⟨_,_,hH,_⟩,_⟩:=hs;exact hH.size
  refine hs.world ?_ rfl rfl rfl ?_ ?_
  · intro b c e p hb
    have hl:=(Array.getElem?_eq_some_iff.1 hb).1
    show (w.heap.push _)[b]?=_
    rw [Array.getElem?_push_lt hl,← hb,Array.getElem?_eq_getElem hl]
  · show w.heap.size≤(w.heap.push _).size
    rw [Array.size_push];omega
  · intro k hk
    have hl : k < w.heap.size:=by omega
    show (w.heap.push _)[k]?=_
    rw [Array.getElem?_push_lt hl,Array.getElem?_eq_getElem hl]
theorem Sim.setMap (hs : Sim D pb w0 S Wr nt Ub fr C Z a w) {r : Nat} {es es' : Array MapEntry} {clock clock' : Nat} (hr : w.heap[r]?=some (.map es clock)) (hr0 : w0.heap.size≤r) : Sim D pb w0 S Wr nt Ub fr C Z a (setBlock w r (.map es' clock')):=by
  refine hs.world ?_ rfl rfl rfl ?_ ?_
  · intro b c e p hb
    have hne : r ≠ b:=fun h=>by subst h;rw [hr] at hb;cases hb
    show (w.heap.setIfInBounds r _)[b]?=_
    rw [Array.getElem?_setIfInBounds_ne hne];exact hb
  · show w.heap.size≤(w.heap.setIfInBounds r _).size
    simp
  · intro k hk
    show (w.heap.setIfInBounds r _)[k]?=_
    rw [Array.getElem?_setIfInBounds_ne (by omega)]
theorem setMap_get {w : World} {r : Nat} {es : Array MapEntry} {clock : Nat} {o : Obj} (hr : w.heap[r]?=some (.map es clock)) : (setBlock w r o).heap[r]?=some o:=by
  have hl:=(Array.getElem?_eq_some_iff.1 hr).1
  show (w.heap.setIfInBounds r o)[r]?=_
  simp [hl]
theorem Sim.rebase (hS : ∀ k,S k→k < w0.heap.size∧¬ Wr k) (hs : Sim D pb w0 S Wr nt Ub fr C Z a w) {r : Nat} {es : Array MapEntry} {clock : Nat} (hr : w.heap[r]?=some (.map es clock)) :
    ∃ Wr' : Nat→Prop,(∀ k,S k→k < w.heap.size∧¬ Wr' k)∧¬ Wr' r∧Sim D pb w S Wr' nt Ub fr C Z a w ∧
      (∀ D2 Ub2 fr2 C2 Z2 a2 w2,Sim D2 pb w S Wr' nt Ub2 fr2 C2 Z2 a2 w2→Sim D2 pb w0 S Wr nt Ub2 fr2 C2 Z2 a2 w2):=by
  obtain ⟨⟨μ,U,hH,hf,hU,hpb⟩,hsz,hdf⟩:=hs
  refine ⟨fun k=>k ≠ r∧(Wr k ∨ ∃ b rr,C b=some rr∧μ b=some k),fun k hk=>⟨?_,?_⟩,fun h=>h.1 rfl,⟨⟨μ,U,⟨rfl,rfl,rfl,Nat.le_refl _,fun _ _ _=>rfl,hH.used,hH.row,?_,hH.inj⟩,hf,hU,hpb⟩,hsz,hdf⟩,?_⟩
  · have:=(hS k hk).1;have:=hH.size;omega
  · rintro ⟨_,h | ⟨b,rr,h1,h2⟩⟩
    · exact (hS k hk).2 h
    · rcases hH.own b rr k h1 h2 with h | h
      · have:=(hS k hk).1;omega
      · exact (hS k hk).2 h
  · intro b rr k hb hm
    refine .inr ⟨fun h=>?_,.inr ⟨b,rr,hb,hm⟩⟩
    subst h
    rcases hH.row b rr hb with ⟨_,h⟩ | ⟨blk,c,e,g1,g2,_⟩
    · rw [hm] at h;cases h
    · rw [hm] at g1;cases g1
      rw [hr] at g2;cases g2
  · rintro D2 Ub2 fr2 C2 Z2 a2 w2 ⟨⟨μ2,U2,h2,hf2,hU2,hpb2⟩,hsz2,hdf2⟩
    refine ⟨⟨μ2,U2,⟨h2.os.trans hH.os,h2.tape.trans hH.tape,h2.output.trans hH.output,Nat.le_trans hH.size h2.size,fun k hk hn=>?_,h2.used,h2.row,fun b rr k hb hm=>?_,h2.inj⟩,hf2,hU2,hpb2⟩,hsz2,hdf2⟩
    · have hk2 : k < w.heap.size:=by have:=hH.size;omega
      rw [h2.keep k hk2 ?_]
      · exact hH.keep k hk hn
      · rintro ⟨_,h | ⟨b,rr,g1,g2⟩⟩
        · exact hn h
        · rcases hH.own b rr k g1 g2 with h | h
          · omega
          · exact hn h
    · rcases h2.own b rr k hb hm with h | ⟨_,h | ⟨b',rr',g1,g2⟩⟩
      · left;have:=hH.size;omega
      · exact .inr h
      · exact hH.own b' rr' k g1 g2
theorem xwp_map (hS : ∀ k,S k→k < w0.heap.size∧¬ Wr k) {c : Code} {x : XC} (hc : compC P md od nt c=some x) {Q : Cont} {st : St} {R : Exit→Act→World→Prop} {r : Nat} {es : Array MapEntry} {clock : Nat}
    (h : xwp P x Q st) (hs : Sim D pb w0 S Wr nt (fun b=>b < st.nx) st.fr st.C st.Z a w) (hr : w.heap[r]?=some (.map es clock))
    (hR : ∀ e st a w,Q e st→Sim D pb w0 S Wr nt (fun b=>b < st.nx) st.fr st.C st.Z a w→w.heap[r]?=some (.map es clock)→R e a w) : c.wp P R a w:=by
  obtain ⟨Wr',h1,h2,h3,h4⟩:=hs.rebase hS hr
  refine xwp_sound h1 hc h h3 fun e st a w2 hq hs2=>hR _ _ _ _ hq (h4 _ _ _ _ _ _ _ hs2) ?_
  obtain ⟨⟨μ,U,hH,_⟩,_⟩:=hs2
  rw [hH.keep r (Array.getElem?_eq_some_iff.1 hr).1 h2]
  exact hr
theorem Sim.fill (hs : Sim D pb w0 S Wr nt Ub fr C Z a w) {d : Nat} {u : Value} (hd : d < nt) (hu : u.oneCell'=true) : Sim D pb w0 S Wr nt Ub (fr.put d (.d (.val u))) C Z (a.put (some d) u) w:=by
  obtain ⟨⟨μ,U,hH,hf,hU,hpb⟩,hsz,hdf⟩:=hs
  have e1 : (a.put (some d) u).tmps=a.tmps.setIfInBounds d u:=rfl
  refine ⟨⟨μ,U,hH,fun s=>?_,hU,hpb⟩,by rw [e1,Array.size_setIfInBounds,hsz],hdf⟩
  rw [e1]
  unfold Fr.put
  by_cases h : d=s
  · subst h
    rw [if_pos rfl,Array.getD_eq_getD_getElem?,Array.getElem?_setIfInBounds_self,if_pos (by omega)]
    exact .d _ _ (.val _ hu)
  · rw [if_neg h,Array.getD_eq_getD_getElem?,Array.getElem?_setIfInBounds_ne h,← Array.getD_eq_getD_getElem?]
    exact hf s
theorem Sim.lose (hs : Sim D pb w0 S Wr nt Ub fr C Z a w) {d : Nat} {u : Value} : Sim D pb w0 S Wr nt Ub (fr.put d .dead) C Z (a.put (some d) u) w:=by
  obtain ⟨⟨μ,U,hH,hf,hU,hpb⟩,hsz,hdf⟩:=hs
  have e1 : (a.put (some d) u).tmps=a.tmps.setIfInBounds d u:=rfl
  refine ⟨⟨μ,U,hH,fun s=>?_,hU,hpb⟩,by rw [e1,Array.size_setIfInBounds,hsz],hdf⟩
  rw [e1]
  unfold Fr.put
  by_cases h : d=s
  · rw [if_pos h];exact .dead _
  · rw [if_neg h,Array.getD_eq_getD_getElem?,Array.getElem?_setIfInBounds_ne h,← Array.getD_eq_getD_getElem?]
    exact hf s
theorem Sim.get (hs : Sim D pb w0 S Wr nt Ub fr C Z a w) {d : Nat} {u : Value} (h : fr d=.d (.val u)) : a.tmps.getD d undef=u:=by
  obtain ⟨⟨μ,U,hH,hf,hU,hpb⟩,hsz,hdf⟩:=hs
  have:=hf d
  rw [h] at this
  exact this.val_eq
end
def valQ (q : Q4) : Value:=.agg #[.int .u64 q.1,.int .u64 q.2.1,.int .u64 q.2.2.1,.int .u64 q.2.2.2]
def MapOK (es : Array MapEntry) (K : List Q4) : Prop:=(∀ e ∈ es.toList,∃ q ∈ K,e.key=valQ q∧e.val=.bool true)∧∀ q ∈ K,∃ e ∈ es.toList,e.key=valQ q
theorem mapOK_nil : MapOK #[] []:=⟨fun e h=>by simp at h,fun q h=>by simp at h⟩
section
variable {P : Program} {k t el : TypeId} {w : World} {r : Nat} {es : Array MapEntry} {clock : Nat} {K : List Q4} {q : Q4}
theorem map_put (L : KeyLaw P k) (ht : P.underlying t=some (.map k el)) (hkey : ∀ p,p ∈ q :: K→∃ l,keyOf P k (valQ p)=some l) (hb : w.heap[r]?=some (.map es clock)) (hm : MapOK es K) :
    ∃ es' clock',(Instr.mapUpdate t (.map (some r)) (valQ q) (.bool true)).run P w=.ok () (setBlock w r (.map es' clock'))∧MapOK es' (K++[q]):=by
  obtain ⟨l,hl⟩:=hkey q (by simp)
  have hks : ∀ e ∈ es.toList,∃ l,keyOf P k e.key=some l:=fun e he=>by
    obtain ⟨p,hp,h1,_⟩:=hm.1 e he
    rw [h1];exact hkey p (by simp [hp])
  rcases L.find w hl es.toList hks with ⟨h1,h2⟩ | ⟨j,e0,h1,h2,h3⟩
  · refine ⟨es.push { key:=valQ q,val:=.bool true,born:=clock },clock + 1,?_,?_,?_⟩
    · simp [Instr.mapUpdate,run_underlying ht,MapKept.run_getObj_map hb,L.check w false hl,h1,MapKept.run_setObj_map _ hb,Result.andThen,setBlock]
    · intro e he
      simp only [Array.toList_push,List.mem_append,List.mem_singleton] at he
      rcases he with he | rfl
      · obtain ⟨p,hp,g1,g2⟩:=hm.1 e he
        exact ⟨p,by simp [hp],g1,g2⟩
      · exact ⟨q,by simp,rfl,rfl⟩
    · intro p hp
      simp only [List.mem_append,List.mem_singleton] at hp
      rcases hp with hp | rfl
      · obtain ⟨e,he,g1⟩:=hm.2 p hp
        exact ⟨e,by simp [he],g1⟩
      · exact ⟨{ key:=valQ p,val:=.bool true,born:=clock },by simp,rfl⟩
  · have hj : es[j]?=some e0:=by simpa using h2
    refine ⟨es.modify j (fun e'=>{ e' with key:=valQ q,val:=.bool true }),clock,?_,?_,?_⟩
    · simp [Instr.mapUpdate,run_underlying ht,MapKept.run_getObj_map hb,L.check w false hl,h1,hj,h3,L.stays w hl,MapKept.run_setObj_map _ hb,Result.andThen,setBlock]
    · intro e he
      rcases MapFrom.mem_modify he with he | ⟨e',_,rfl⟩
      · obtain ⟨p,hp,g1,g2⟩:=hm.1 e he
        exact ⟨p,by simp [hp],g1,g2⟩
      · exact ⟨q,by simp,rfl,rfl⟩
    · have key2 : ∀ e ∈ es.toList,∃ e' ∈ (es.modify j (fun e'=>{ e' with key:=valQ q,val:=.bool true })).toList,e'.key=e.key:=by
        intro e he
        obtain ⟨i,hi,rfl⟩:=List.getElem_of_mem he
        rw [Array.toList_modify]
        refine ⟨(es.toList.modify j (fun e'=>{ e' with key:=valQ q,val:=.bool true }))[i]'(by simpa using hi),List.getElem_mem _,?_⟩
        rw [List.getElem_modify]
        split
        · rename_i hij
          subst hij
          rw [List.getElem?_eq_getElem hi] at h2
          cases h2
          exact h3.symm
        · rfl
      intro p hp
      simp only [List.mem_append,List.mem_singleton] at hp
      rcases hp with hp | rfl
      · obtain ⟨e,he,g1⟩:=hm.2 p hp
        obtain ⟨e',he',g2⟩:=key2 e he
        exact ⟨e',he',g2.trans g1⟩
      · obtain ⟨e',he',g2⟩:=key2 e0 (List.mem_of_getElem? h2)
        exact ⟨e',he',g2.trans h3⟩
theorem map_has (L : KeyLaw P k) (ht : P.underlying t=some (.map k el)) (hz : ∃ z,(zeroValue el).run P w=.ok z w) (hkey : ∀ p,p ∈ K→∃ l,keyOf P k (valQ p)=some l) (hb : w.heap[r]?=some (.map es clock)) (hm : MapOK es K) (hq : q ∈ K) :
    (Instr.lookup t (.map (some r)) (valQ q) false).run P w=.ok (.bool true) w:=by
  obtain ⟨l,hl⟩:=hkey q hq
  have hks : ∀ e ∈ es.toList,∃ l,keyOf P k e.key=some l:=fun e he=>by
    obtain ⟨p,hp,h1,_⟩:=hm.1 e he
    rw [h1];exact hkey p hp
  rcases L.find w hl es.toList hks with ⟨h1,h2⟩ | ⟨j,e0,h1,h2,h3⟩
  · obtain ⟨e,he,g⟩:=hm.2 q hq
    exact absurd g (h2 e he)
  · obtain ⟨p,hp,_,g2⟩:=hm.1 e0 (List.mem_of_getElem? h2)
    simp [Instr.lookup,run_underlying ht,MapKept.run_getObj_map hb,L.check w _ hl,h1,g2,Result.andThen]
end
end Go.Sv
namespace Go.Sv
open Go Go.Proofs Go.WideMaps
theorem arr24 : ArrKey Try.prog 24 22 4:=⟨by kernel_rfl,by kernel_rfl,by kernel_rfl,by kernel_rfl⟩
theorem law24k : KeyLaw Try.prog 24:=arr24.law
theorem u61 : Try.prog.underlying 61=some (.map 24 4):=by kernel_rfl
theorem wf_of {a : Int} (h : okW a) : (Lit.int .u64 a).wf=true:=by
  unfold okW at h
  simp [Lit.wf,IntKind.min,IntKind.max,IntKind.signed,IntKind.bits]
  omega
theorem kl22 (m : Nat) {a : Int} (h : okW a) : Try.prog.keyLits (m + 1) 22 [.int .u64 a]=some [.int .u64 a]:=by
  have hu : Try.prog.underlying 22=some (.int .u64):=by kernel_rfl
  unfold Program.keyLits
  rw [hu]
  simp [wf_of h]
def okQ (q : Q4) : Prop:=okW q.1∧okW q.2.1∧okW q.2.2.1∧okW q.2.2.2
theorem keyQ (q : Q4) (h : okQ q) : ∃ l,keyOf Try.prog 24 (valQ q)=some l:=by
  obtain ⟨a,b,c,d⟩:=q
  obtain ⟨h1,h2,h3,h4⟩:=h
  simp only at h1 h2 h3 h4
  unfold keyOf
  rw [arr24.hu]
  have hk : Try.prog.keyType 24=true:=by kernel_rfl
  have hf : Value.formed Try.prog 24 (valQ (a,b,c,d))=true:=by
    simp only [Value.formed,valQ,arr24.hu,arr24.size]
    rfl
  have hz : (Try.prog.types.size == 0)=false:=by kernel_rfl
  obtain ⟨m,hm⟩ : ∃ m,Try.prog.types.size=m + 1:=by
    cases hq : Try.prog.types.size with
    | zero=>rw [hq] at hz;cases hz
    | succ m=>exact ⟨m,rfl⟩
  have hl : Try.prog.keyLits (Try.prog.types.size + 1) 24 (valQ (a,b,c,d)).cells.toList=some [.int .u64 a,.int .u64 b,.int .u64 c,.int .u64 d]:=by
    have ec : (valQ (a,b,c,d)).cells.toList=[.int .u64 a,.int .u64 b,.int .u64 c,.int .u64 d]:=rfl
    rw [hm,ec]
    unfold Program.keyLits
    rw [arr24.hu]
    simp only [arr24.size,arr24.one]
    have er : List.range 4=[0,1,2,3]:=rfl
    rw [er]
    simp [kl22 m h1,kl22 m h2,kl22 m h3,kl22 m h4]
  simp only [hk,Bool.true_and,hf,if_true,hl,Option.map_some]
  exact ⟨_,rfl⟩
theorem okQ_sets : ∀ {t : T},okT t→∀ q ∈ setsT t,okQ q:=by
  have key : ∀ n (t : T),t.cnt≤n→okT t→∀ q ∈ setsT t,okQ q:=by
    intro n
    induction n with
    | zero=>intro t h;have:=cnt_pos t;omega
    | succ n ih =>
      intro t hn ho
      obtain ⟨k,a,b,c,d,mn,mx,subs⟩:=t
      have hS:=okT_S ho
      have hsub:=okT_subs ho
      rw [setsT]
      split
      · intro q hq
        simp only [List.mem_singleton] at hq
        subst hq
        exact hS
      · have hl : ∀ (l : List T),okL l→cntL l≤n→∀ q ∈ setsL l,okQ q:=by
          intro l
          induction l with
          | nil=>intro _ _ q hq;simp [setsL] at hq
          | cons u l ihl =>
            intro hok hc q hq
            simp only [okL] at hok
            simp only [cntL] at hc
            rw [setsL,List.mem_append] at hq
            rcases hq with hq | hq
            · exact ih u (by omega) hok.1 q hq
            · exact ihl hok.2 (by omega) q hq
        refine hl subs hsub ?_
        rw [T.cnt] at hn;omega
  exact fun {t} h=>key _ t (Nat.le_refl _) h
end Go.Sv
namespace Go.Sv
open Go Go.Proofs
def x124 : XC:=(.seq (.ops 2 [ (0,⟨some 2,none,.box (.t 0)⟩),(1,⟨some 4,none,.mv (.k (.d (.val (.bool false))))⟩)] (some [1,2])) (.seq (.ops 10 [ (0,⟨some 5,none,.mv (.t 1)⟩),(1,⟨some 6,none,.arith .quo (.t 5) (.k (.d (.val (.int .i64 64))))⟩),(2,⟨some 7,none,.idxP 4 1 (.t 2) (.t 6)⟩),(3,⟨some 8,none,.load none (.t 7)⟩),(4,⟨some 9,none,.mv (.t 1)⟩),(5,⟨some 10,none,.arith .rem (.t 9) (.k (.d (.val (.int .i64 64))))⟩),(6,⟨some 11,none,.arith .shr (.t 8) (.t 10)⟩),(7,⟨some 12,none,.arith .rem (.t 11) (.k (.d (.val (.int .u64 2))))⟩),(8,⟨some 13,none,.arith .eql (.t 12) (.k (.d (.val (.int .u64 1))))⟩),(9,⟨some 4,none,.mv (.t 13)⟩)] (some [4])) .ret))
def md124 : FuncId→Option Nat × Bool
  | _=>(none,false)
def od124 : Nat→List (List Nat) × List Nat × Option (List Nat)
  | 0=>([],[],some [1,2])
  | 1=>([],[],some [4])
  | _=>([],[],none)
theorem b124 {ags : List AV} {row : Option (List DV)} {r : AV} {row' nw : Option (List DV)} (hal : ags.length≤14) (hrow : row'.isSome=true→row.isSome=true) (h : xwp Try.prog x124 (retK [.tmp 4] row.isSome r row' nw) (St.init ags row)) : Good Try.prog 124 ags row r row' nw :=
  good_of_body' (md:=md124) (od:=od124) Try.f124 (by kernel_rfl) (by kernel_rfl) (by kernel_rfl) (by kernel_rfl) (by kernel_rfl) hal hrow h

def x74 : XC:=(.seq (.ops 2 [ (0,⟨some 1,none,.box (.t 0)⟩),(1,⟨some 2,none,.mv (.k (.d (.val (.slice none 0 0))))⟩)] (some [1])) (.seq (.ops 1 [ (0,⟨some 3,none,.mv (.k (.d (.val (.slice none 0 0))))⟩)] (some [1,3])) (.seq (.seq (.ops 1 [ (0,⟨some 4,none,.mv (.k (.d (.val (.int .i64 0))))⟩)] (some [1,3,4])) (.block 0 (.loop (.seq (.seq (.ops 2 [ (0,⟨some 5,none,.mv (.t 4)⟩),(1,⟨some 6,none,.arith .lss (.t 5) (.k (.d (.val (.int .i64 256))))⟩)] (some [1,3,4,6])) (.cond (.t 6) .skip (.exit 0))) (.seq (.block 1 (.seq (.ops 3 [ (0,⟨some 9,none,.load (some 4) (.t 1)⟩),(1,⟨some 10,none,.mv (.t 4)⟩),(2,⟨some 11,none,.call 124 [(.t 9),(.t 10)] none false⟩)] (some [1,3,4,11])) (.cond (.t 11) (.ops 5 [ (0,⟨some 12,none,.mv (.t 3)⟩),(1,⟨some 13,none,.mv (.t 4)⟩),(2,⟨some 14,none,.mkrow [(.int .i64 0)] 1 1 [(0,1,(.t 13))]⟩),(3,⟨some 15,none,.app [(.int .i64 0)] 8 (.t 12) (.t 14)⟩),(4,⟨some 3,none,.mv (.t 15)⟩)] (some [1,3,4])) .skip))) (.ops 3 [ (0,⟨some 7,none,.mv (.t 4)⟩),(1,⟨some 8,none,.arith .add (.t 7) (.k (.d (.val (.int .i64 1))))⟩),(2,⟨some 4,none,.mv (.t 8)⟩)] (some [1,3,4]))))))) (.seq (.ops 2 [ (0,⟨some 16,none,.mv (.t 3)⟩),(1,⟨some 2,none,.mv (.t 16)⟩)] (some [2])) .ret))))
def md74 : FuncId→Option Nat × Bool
  | _=>(none,false)
def od74 : Nat→List (List Nat) × List Nat × Option (List Nat)
  | 0=>([],[],some [1])
  | 1=>([],[],some [1,3])
  | 2=>([],[],some [1,3,4])
  | 3=>([],[],some [1,3,4,6])
  | 4=>([],[],some [1,3,4])
  | 5=>([],[],some [1,3,4,11])
  | 6=>([],[],some [1,3,4])
  | 7=>([],[],some [2])
  | _=>([],[],none)
theorem b74 {ags : List AV} {row : Option (List DV)} {r : AV} {row' nw : Option (List DV)} (hal : ags.length≤17) (hrow : row'.isSome=true→row.isSome=true) (h : xwp Try.prog x74 (retK [.tmp 2] row.isSome r row' nw) (St.init ags row)) : Good Try.prog 74 ags row r row' nw :=
  good_of_body' (md:=md74) (od:=od74) Try.f74 (by kernel_rfl) (by kernel_rfl) (by kernel_rfl) (by kernel_rfl) (by kernel_rfl) hal hrow h

def x99 : XC:=(.seq (.ops 1 [ (0,⟨some 2,none,.alloc [(.int .u64 0),(.int .u64 0),(.int .u64 0),(.int .u64 0)]⟩)] (some [0,2])) (.seq (.ops 1 [ (0,⟨some 3,none,.alloc [(.int .u64 0),(.int .u64 0),(.int .u64 0),(.int .u64 0)]⟩)] (some [0,2,3])) (.seq (.seq (.ops 1 [ (0,⟨some 4,none,.mv (.k (.d (.val (.int .i64 0))))⟩)] (some [0,2,3,4])) (.block 0 (.loop (.seq (.seq (.ops 4 [ (0,⟨some 5,none,.mv (.t 4)⟩),(1,⟨some 6,none,.mv (.t 0)⟩),(2,⟨some 7,none,.lenS (.t 6)⟩),(3,⟨some 8,none,.arith .lss (.t 5) (.t 7)⟩)] (some [0,2,3,4,8])) (.cond (.t 8) .skip (.exit 0))) (.seq (.block 1 (.seq (.ops 7 [ (0,⟨some 11,none,.load (some 4) (.t 3)⟩),(1,⟨some 12,none,.mv (.t 0)⟩),(2,⟨some 13,none,.mv (.t 4)⟩),(3,⟨some 14,none,.idxS 1 (.t 12) (.t 13)⟩),(4,⟨some 15,none,.load none (.t 14)⟩),(5,⟨some 16,none,.call 124 [(.t 11),(.t 15)] none false⟩),(6,⟨some 17,none,.un .not (.t 16)⟩)] (some [0,2,3,4,17])) (.cond (.t 17) (.ops 16 [ (0,⟨some 18,none,.mv (.t 0)⟩),(1,⟨some 19,none,.mv (.t 4)⟩),(2,⟨some 20,none,.idxS 1 (.t 18) (.t 19)⟩),(3,⟨some 21,none,.load none (.t 20)⟩),(4,⟨some 22,none,.arith .quo (.t 21) (.k (.d (.val (.int .i64 64))))⟩),(5,⟨some 23,none,.idxP 4 1 (.t 3) (.t 22)⟩),(6,⟨some 24,none,.load none (.t 23)⟩),(7,⟨some 25,none,.mv (.t 0)⟩),(8,⟨some 26,none,.mv (.t 4)⟩),(9,⟨some 27,none,.idxS 1 (.t 25) (.t 26)⟩),(10,⟨some 28,none,.load none (.t 27)⟩),(11,⟨some 29,none,.arith .rem (.t 28) (.k (.d (.val (.int .i64 64))))⟩),(12,⟨some 30,none,.arith .shl (.k (.d (.val (.int .u64 1)))) (.t 29)⟩),(13,⟨some 31,none,.arith .add (.t 24) (.t 30)⟩),(14,⟨some 32,none,.idxP 4 1 (.t 3) (.t 22)⟩),(15,⟨none,none,.store 1 (.t 32) (.t 31)⟩)] (some [0,2,3,4])) .skip))) (.ops 3 [ (0,⟨some 9,none,.mv (.t 4)⟩),(1,⟨some 10,none,.arith .add (.t 9) (.k (.d (.val (.int .i64 1))))⟩),(2,⟨some 4,none,.mv (.t 10)⟩)] (some [0,2,3,4]))))))) (.seq (.ops 2 [ (0,⟨some 33,none,.load (some 4) (.t 3)⟩),(1,⟨none,none,.store 4 (.t 2) (.t 33)⟩)] (some [2])) .ret))))
def md99 : FuncId→Option Nat × Bool
  | _=>(none,false)
def od99 : Nat→List (List Nat) × List Nat × Option (List Nat)
  | 0=>([],[],some [0,2])
  | 1=>([],[],some [0,2,3])
  | 2=>([],[],some [0,2,3,4])
  | 3=>([],[],some [0,2,3,4,8])
  | 4=>([],[],some [0,2,3,4])
  | 5=>([[],[],[],[1,2],[1,2,3],[0,1,2,3,4],[0,1,2,3,4,5]],[0,1,2,3,4,5,6],some [0,2,3,4,17])
  | 6=>([[],[],[0,1],[0,1,2],[0,1,2,3],[0,1,2,3,4],[0,1,2,3,4,5],[],[],[7,8],[7,8,9],[7,8,9,10],[7,8,9,10,11],[0,1,2,3,4,5,6,7,8,9,10,11,12],[0,1,2,3,4,5,6,7,8,9,10,11,12,13],[0,1,2,3,4,5,6,7,8,9,10,11,12,13,14]],[0,1,2,3,4,5,6,7,8,9,10,11,12,13,14,15],some [0,2,3,4])
  | 7=>([],[],some [2])
  | _=>([],[],none)
theorem b99 {ags : List AV} {row : Option (List DV)} {r : AV} {row' nw : Option (List DV)} (hal : ags.length≤34) (hrow : row'.isSome=true→row.isSome=true) (h : xwp Try.prog x99 (retK [.cell 2 (some 4)] row.isSome r row' nw) (St.init ags row)) : Good Try.prog 99 ags row r row' nw :=
  good_of_body' (md:=md99) (od:=od99) Try.f99 (by kernel_rfl) (by kernel_rfl) (by kernel_rfl) (by kernel_rfl) (by kernel_rfl) hal hrow h

set_option maxRecDepth 100000
set_option maxHeartbeats 4000000
attribute [local irreducible] W E R KP thenK blockK retK Good xwp aRun
theorem has124_good {a b c d : Int} (ha : okW a) (hb : okW b) (hc : okW c) (hd : okW d) (x : Nat) (hx : x < 256) : Good Try.prog 124 [setA a b c d,.i (x : Nat)] none (.b (inG a b c d x)) none none:=by
  unfold setA
  refine b124 (by simp) (by simp) (w_init ?_)
  unfold x124
  have hw : okW ([a,b,c,d].getD (x / 64) 0):=by
    have : x / 64 < 4:=by omega
    match x / 64,this with
    | 0,_=>exact ha
    | 1,_=>exact hb
    | 2,_=>exact hc
    | 3,_=>exact hd
  repeat' (first|(apply r_mvV;rfl)|(apply r_quoI;rfl;rfl;rfl;omega)|(apply r_remI;rfl;rfl;rfl)|(apply r_ixPL;rfl;rfl;omega)|(apply r_ldWL;rfl;rfl;omega)|(apply r_shrI;rfl;rfl;exact hw;omega)|(apply r_rem2;rfl;rfl;exact (okW_div hw _).1)|(apply r_eqlU;rfl;rfl;rfl)|(apply r_box;((conv=>lhs;simp only [Nat.reduceAdd])<;>rfl);rfl;rfl;rfl)|(apply r_nilK)|(apply k_V;rfl)|(apply k_PL;rfl)|(apply k_nil)|(apply e_ret (vs:=[.d (.val _)]);rfl)|(apply w_seq)|(apply w_ops;((conv=>lhs;simp only [Nat.reduceAdd])<;>rfl))|(apply e_thenN)|(apply w_ret))
  exact retB rfl
theorem list74_good {a b c d : Int} (ha : okW a) (hb : okW b) (hc : okW c) (hd : okW d) : Good Try.prog 74 [setA a b c d] none (.d (.sl (encI (encJ (listTo a b c d 256))) (listTo a b c d 256).length)) none none:=by
  unfold setA
  refine b74 (by simp) (by simp) (w_init ?_)
  unfold x74
  repeat' (first|(apply r_mvV;rfl)|(apply r_box;((conv=>lhs;simp only [Nat.reduceAdd])<;>rfl);rfl;rfl;rfl)|(apply r_nilK)|(apply k_V;rfl)|(apply k_PL;rfl)|(apply k_nil)|(apply w_seq)|(apply w_ops;((conv=>lhs;simp only [Nat.reduceAdd])<;>rfl))|(apply e_thenN)|(apply w_block))
  apply w_loopI (S:=fun i : Nat=>⟨((Fr.nil.put 1 (.ptrL 1 0)).put 3 (.slL 50 0 (listTo a b c d i).length 1)).put 4 (.i i),rowsOf [(1,[.d (.val (.int .u64 a)),.d (.val (.int .u64 b)),.d (.val (.int .u64 c)),.d (.val (.int .u64 d))]),(50,(encI (encJ (listTo a b c d i))).map AV.d)],Frz.buts 100 [50],100⟩) (m:=fun i=>256 - i) (I:=fun i=>i≤256) (i0:=0)
  · exact Nat.zero_le _
  · refine wkM [] [50] rfl ?_ ?_ rfl ?_
    · intro p hp
      simp only [List.mem_cons,List.not_mem_nil,or_false] at hp
      rcases hp with rfl | rfl
      · exact ⟨by omega,.inr ⟨rfl,_,rfl,.data rfl⟩⟩
      · exact ⟨by omega,.inl ⟨rfl,rfl⟩⟩
    · intro q hq;simp only [List.mem_cons,List.not_mem_nil,or_false] at hq;rcases hq with rfl<;>rfl
    · repeat' (first|exact FWk.nil|(apply FWk.i;rfl;(first|rfl|omega|(simp;done)))|(apply FWk.ptr;rfl;rfl;rfl;omega;rfl)|(apply FWk.slN;rfl;omega;rfl))
  intro i K hi hK
  dsimp only
  rcases Nat.lt_or_ge i 256 with hlt | hge
  · have hh:=has124_good ha hb hc hd i hlt
    unfold setA at hh
    have hidx:=listTo_len a b c d i
    rcases Bool.eq_false_or_eq_true (inG a b c d i) with hq | hq
    · rw [hq] at hh
      have e : listTo a b c d (i + 1)=listTo a b c d i++[i]:=by rw [listTo,if_pos hq]
      repeat' (first|(apply r_mvV;rfl)|(apply r_mvSL;rfl)|(apply r_ldL (v:=.agg [.d (.val (.int .u64 a)),.d (.val (.int .u64 b)),.d (.val (.int .u64 c)),.d (.val (.int .u64 d))]);rfl;rfl;rfl)|(apply r_callA;rfl;rfl;exact hh)|(apply r_mkrow1;rfl;((conv=>lhs;simp only [Nat.reduceAdd])<;>rfl))|(apply r_app1 (li:=encJ (listTo a b c d i));rfl;rfl;rfl;rfl;rfl;((conv=>lhs;simp only [Nat.reduceAdd])<;>rfl);exact encJ_len _;omega)|(apply r_lss;rfl;rfl;(first|(apply dT;omega)|(apply dF;omega)|rfl))|(apply r_add;rfl;rfl;rfl;omega)|(apply r_nilK)|(apply k_V;rfl)|(apply k_PL;rfl)|(apply k_SL;rfl)|(apply k_nil)|(apply w_seq)|(apply w_ops;((conv=>lhs;simp only [Nat.reduceAdd])<;>rfl))|(apply w_condT;rfl)|(apply e_thenN)|(apply w_block)|(apply e_blkN)|(apply w_skip))
      apply e_thenK
      apply hK (i + 1)
      · omega
      · omega
      · rw [e]
        refine wkM [(50,108)] [] rfl ?_ ?_ rfl ?_
        · intro p hp
          simp only [List.mem_cons,List.not_mem_nil,or_false] at hp
          rcases hp with rfl | rfl
          · exact ⟨by omega,.inr ⟨rfl,_,rfl,.data rfl⟩⟩
          · refine ⟨by omega,.inr ⟨rfl,_,?_,.data (by simp [encI,AV.isD])⟩⟩
            rw [encJ_app];rfl
        · intro q hq;simp only [List.mem_cons,List.not_mem_nil,or_false] at hq;rcases hq with rfl<;>rfl
        · rw [List.length_append]
          repeat' (first|exact FWk.nil|(apply FWk.i;rfl;(first|rfl|omega|(simp;done)))|(apply FWk.sl;rfl;rfl;rfl;rfl;omega;rfl)|(apply FWk.ptr;rfl;rfl;rfl;omega;rfl))
    · rw [hq] at hh
      have e : listTo a b c d (i + 1)=listTo a b c d i:=by rw [listTo,if_neg (by simp [hq])]
      repeat' (first|(apply r_mvV;rfl)|(apply r_ldL (v:=.agg [.d (.val (.int .u64 a)),.d (.val (.int .u64 b)),.d (.val (.int .u64 c)),.d (.val (.int .u64 d))]);rfl;rfl;rfl)|(apply r_callA;rfl;rfl;exact hh)|(apply r_lss;rfl;rfl;(first|(apply dT;omega)|(apply dF;omega)|rfl))|(apply r_add;rfl;rfl;rfl;omega)|(apply r_nilK)|(apply k_V;rfl)|(apply k_PL;rfl)|(apply k_SL;rfl)|(apply k_nil)|(apply w_seq)|(apply w_ops;((conv=>lhs;simp only [Nat.reduceAdd])<;>rfl))|(apply w_condT;rfl)|(apply w_condF;rfl)|(apply e_thenN)|(apply w_block)|(apply e_blkN)|(apply w_skip))
      apply e_thenK
      apply hK (i + 1)
      · omega
      · omega
      · rw [e]
        refine wkM [] [] rfl ?_ ?_ rfl ?_
        · intro p hp
          simp only [List.mem_cons,List.not_mem_nil,or_false] at hp
          rcases hp with rfl | rfl
          · exact ⟨by omega,.inr ⟨rfl,_,rfl,.data rfl⟩⟩
          · exact ⟨by omega,.inr ⟨rfl,_,rfl,.data (by simp [encI,AV.isD])⟩⟩
        · intro q hq;simp only [List.mem_cons,List.not_mem_nil,or_false] at hq;rcases hq with rfl<;>rfl
        · repeat' (first|exact FWk.nil|(apply FWk.i;rfl;(first|rfl|omega|(simp;done)))|(apply FWk.sl;rfl;rfl;rfl;rfl;omega;rfl)|(apply FWk.ptr;rfl;rfl;rfl;omega;rfl))
  · have ei : i=256:=by omega
    subst ei
    repeat' (first|(apply r_mvV;rfl)|(apply r_mvSL;rfl)|(apply r_lss;rfl;rfl;(first|(apply dT;omega)|(apply dF;omega)|rfl))|(apply r_nilK)|(apply k_V;rfl)|(apply k_PL;rfl)|(apply k_SL;rfl)|(apply k_nil)|(apply e_ret;rfl)|(apply w_seq)|(apply w_ops;((conv=>lhs;simp only [Nat.reduceAdd])<;>rfl))|(apply w_condF;rfl)|(apply e_thenN)|(apply e_thenX)|(apply e_blkE)|(apply w_exit)|(apply w_ret))
    exact retL1 rfl (encJ_len _)
theorem set99_good (l : List Nat) (hx : ∀ x ∈ l,x < 256) (hl : l.length≤10000000000) : Good Try.prog 99 [.d (.sl (encI (encJ l)) l.length)] none (.agg (encW (setWs l))) none none:=by
  have hle : (encJ l).length=l.length:=encJ_len l
  refine b99 (by simp) (by simp) (w_init ?_)
  unfold x99
  repeat' (first|(apply r_mvV;rfl)|(apply r_alloc;((conv=>lhs;simp only [Nat.reduceAdd])<;>rfl);rfl)|(apply r_nilK)|(apply k_V;rfl)|(apply k_PL;rfl)|(apply k_S;rfl)|(apply k_nil)|(apply w_seq)|(apply w_ops;((conv=>lhs;simp only [Nat.reduceAdd])<;>rfl))|(apply e_thenN)|(apply w_block))
  apply w_loopI (S:=fun i : Nat=>⟨(((Fr.nil.put 0 (.d (.sl (encI (encJ l)) l.length))).put 2 (.ptrL 1 0)).put 3 (.ptrL 2 0)).put 4 (.i i),rowsOf [(1,encW [0,0,0,0]),(2,encW (setWs (l.take i)))],Frz.buts 100 [1,2],100⟩) (m:=fun i=>l.length - i) (I:=fun i=>i≤l.length) (i0:=0)
  · exact Nat.zero_le _
  · refine wkM [] [] rfl ?_ ?_ rfl ?_
    · intro p hp
      simp only [List.mem_cons,List.not_mem_nil,or_false] at hp
      rcases hp with rfl | rfl
      · exact ⟨by omega,.inr ⟨rfl,_,rfl,.data rfl⟩⟩
      · exact ⟨by omega,.inr ⟨rfl,_,rfl,.data rfl⟩⟩
    · intro q hq;simp only [List.mem_cons,List.not_mem_nil,or_false] at hq;rcases hq with rfl | rfl<;>rfl
    · repeat' (first|exact FWk.nil|(apply FWk.i;rfl;(first|rfl|omega|(simp;done)))|(apply FWk.ptr;rfl;rfl;rfl;omega;rfl)|(apply FWk.d;rfl;rfl))
  intro i K hi hK
  dsimp only
  rcases Nat.lt_or_ge i l.length with hlt | hge
  · have hxi : l[i] < 256:=hx _ (List.getElem_mem hlt)
    have hget : (encJ l)[i]?=some ((l[i] : Nat) : Int):=by
      simp [encJ,List.getElem?_eq_getElem hlt]
    have htk : l.take (i + 1)=l.take i++[l[i]]:=List.take_succ_eq_append_getElem hlt
    obtain ⟨hok,_⟩:=setWs_ok (l:=l.take i) (fun x h=>hx x (List.mem_of_mem_take h))
    have hst : setWs (l.take (i + 1))=addB (setWs (l.take i)) l[i]:=by rw [htk,setWs_snoc]
    generalize l[i]=x at hxi hget hst
    generalize setWs (l.take i)=ws at hok hst ⊢
    have h4:=hok.1
    have hw:=okWs_getD hok (x / 64)
    have key : ∀ w,bitG (ws.getD (x / 64) 0) x=w→(if w=true then ws else ws.set (x / 64) (ws.getD (x / 64) 0 + 2 ^ (x % 64)))=addB ws x:=by
      intro w h;subst h;rfl
    have hadd:=fun h=>(addW_ok (x:=x) hw h).1
    match ws,h4 with
    | [w0,w1,w2,w3],_ =>
    have hh:=has124_good (hok.2 w0 (by simp)) (hok.2 w1 (by simp)) (hok.2 w2 (by simp)) (hok.2 w3 (by simp)) x hxi
    unfold setA at hh
    have hin : inG w0 w1 w2 w3 x=bitG ([w0,w1,w2,w3].getD (x / 64) 0) x:=rfl
    rcases Bool.eq_false_or_eq_true (bitG ([w0,w1,w2,w3].getD (x / 64) 0) x) with hq | hq
    · rw [hin,hq] at hh
      have e:=key true hq
      rw [if_pos rfl] at e
      repeat' (first|(apply r_mvV;rfl)|(apply r_mvS;rfl)|(apply r_ldL (v:=.agg [.d (.val (.int .u64 w0)),.d (.val (.int .u64 w1)),.d (.val (.int .u64 w2)),.d (.val (.int .u64 w3))]);rfl;rfl;rfl)|(apply r_ixI (j:=i);rfl;rfl;rfl;exact hle;exact hlt)|(apply r_ldI;rfl;exact hget)|(apply r_callA;rfl;rfl;exact hh)|(apply r_lss;rfl;rfl;(first|(apply dT;omega)|(apply dF;omega)|rfl))|(apply r_add;rfl;rfl;rfl;omega)|(apply r_not;rfl;rfl)|(apply r_lenD;rfl)|(apply r_nilK)|(apply k_V;rfl)|(apply k_PL;rfl)|(apply k_S;rfl)|(apply k_nil)|(apply w_seq)|(apply w_ops;((conv=>lhs;simp only [Nat.reduceAdd])<;>rfl))|(apply w_condT;rfl)|(apply w_condF;rfl)|(apply e_thenN)|(apply w_block)|(apply e_blkN)|(apply w_skip))
      apply e_thenK
      apply hK (i + 1)
      · omega
      · omega
      · rw [hst,← e]
        refine wkM [] [] rfl ?_ ?_ rfl ?_
        · intro p hp
          simp only [List.mem_cons,List.not_mem_nil,or_false] at hp
          rcases hp with rfl | rfl
          · exact ⟨by omega,.inr ⟨rfl,_,rfl,.data rfl⟩⟩
          · exact ⟨by omega,.inr ⟨rfl,_,rfl,.data rfl⟩⟩
        · intro q hq;simp only [List.mem_cons,List.not_mem_nil,or_false] at hq;rcases hq with rfl | rfl<;>rfl
        · repeat' (first|exact FWk.nil|(apply FWk.i;rfl;(first|rfl|omega|(simp;done)))|(apply FWk.ptr;rfl;rfl;rfl;omega;rfl)|(apply FWk.d;rfl;rfl))
    · rw [hin,hq] at hh
      have e:=key false hq
      rw [if_neg (by simp)] at e
      have ha:=hadd hq
      repeat' (first|(apply r_mvV;rfl)|(apply r_mvS;rfl)|(apply r_ldL (v:=.agg [.d (.val (.int .u64 w0)),.d (.val (.int .u64 w1)),.d (.val (.int .u64 w2)),.d (.val (.int .u64 w3))]);rfl;rfl;rfl)|(apply r_ixI (j:=i);rfl;rfl;rfl;exact hle;exact hlt)|(apply r_ldI;rfl;exact hget)|(apply r_callA;rfl;rfl;exact hh)|(apply r_quoI;rfl;rfl;rfl;omega)|(apply r_remI;rfl;rfl;rfl)|(apply r_ixPL;rfl;rfl;omega)|(apply r_ldWs (ws:=[w0,w1,w2,w3]);rfl;rfl;(simp;omega))|(apply r_shlI;rfl;rfl;omega)|(apply r_addW;rfl;rfl;exact ha)|(apply r_stWs (ws:=[w0,w1,w2,w3]);rfl;rfl;rfl;rfl;(simp;omega))|(apply r_lss;rfl;rfl;(first|(apply dT;omega)|(apply dF;omega)|rfl))|(apply r_add;rfl;rfl;rfl;omega)|(apply r_not;rfl;rfl)|(apply r_lenD;rfl)|(apply r_nilK)|(apply k_V;rfl)|(apply k_PL;rfl)|(apply k_S;rfl)|(apply k_nil)|(apply w_seq)|(apply w_ops;((conv=>lhs;simp only [Nat.reduceAdd])<;>rfl))|(apply w_condT;rfl)|(apply e_thenN)|(apply w_block)|(apply e_blkN)|(apply w_skip))
      apply e_thenK
      apply hK (i + 1)
      · omega
      · omega
      · rw [hst,← e]
        refine wkM [] [] rfl ?_ ?_ rfl ?_
        · intro p hp
          simp only [List.mem_cons,List.not_mem_nil,or_false] at hp
          rcases hp with rfl | rfl
          · exact ⟨by omega,.inr ⟨rfl,_,rfl,.data rfl⟩⟩
          · exact ⟨by omega,.inr ⟨rfl,_,rfl,.data (encW_isD _)⟩⟩
        · intro q hq;simp only [List.mem_cons,List.not_mem_nil,or_false] at hq;rcases hq with rfl | rfl<;>rfl
        · repeat' (first|exact FWk.nil|(apply FWk.i;rfl;(first|rfl|omega|(simp;done)))|(apply FWk.ptr;rfl;rfl;rfl;omega;rfl)|(apply FWk.d;rfl;rfl))
  · rw [List.take_of_length_le hge]
    obtain ⟨hok,_⟩:=setWs_ok hx
    generalize setWs l=ws at hok
    match ws,hok.1 with
    | [w0,w1,w2,w3],_ =>
    repeat' (first|(apply r_mvV;rfl)|(apply r_mvS;rfl)|(apply r_ldL (v:=.agg [.d (.val (.int .u64 w0)),.d (.val (.int .u64 w1)),.d (.val (.int .u64 w2)),.d (.val (.int .u64 w3))]);rfl;rfl;rfl)|(apply r_lss;rfl;rfl;(first|(apply dT;omega)|(apply dF;omega)|rfl))|(apply r_lenD;rfl)|(apply r_stL;rfl;rfl;rfl;rfl;(first|rfl|(simp only [z_nil,z_add]<;>rfl));rfl;rfl)|(apply r_nilK)|(apply k_V;rfl)|(apply k_PL;rfl)|(apply k_S;rfl)|(apply k_nil)|(apply e_ret;rfl)|(apply w_seq)|(apply w_ops;((conv=>lhs;simp only [Nat.reduceAdd])<;>rfl))|(apply w_condF;rfl)|(apply e_thenN)|(apply e_thenX)|(apply e_blkE)|(apply w_exit)|(apply w_ret))
    exact .data _ rfl
end Go.Sv
namespace Go.Sv
open Go Go.Proofs
section
variable {P : Program} {Q : Cont} {fr : Fr} {C : Heap} {Z : Frz} {nx : Nat} {base n d : Nat} {l : List (Nat × XO)} {kp : Option (List Nat)} {x i y s : X}
end
set_option maxRecDepth 100000
set_option maxHeartbeats 4000000
attribute [local irreducible] W E R KP thenK blockK retK Good xwp aRun
end Go.Sv
namespace Go.Sv
open Go Go.Proofs
set_option maxRecDepth 100000
set_option maxHeartbeats 4000000
attribute [local irreducible] W E R KP thenK blockK retK Good xwp aRun
end Go.Sv
namespace Go.Sv
open Go
end Go.Sv
namespace Go.Sv
open Go Go.Proofs
section
variable {P : Program} {Q : Cont} {fr : Fr} {C : Heap} {Z : Frz} {nx : Nat} {base n d : Nat} {l : List (Nat × XO)} {kp : Option (List Nat)} {x i y s : X}
theorem r_appI {b m j id : Nat} {K L : List Int} (hs : s.ev fr=.slL b 0 m 1) (hx : x.ev fr=.d (.sl (encI L) j)) (hC : C b=some ((encI K).map AV.d)) (hz : Z b=false) (hid : base + n=id) (hm : K.length=m) (hj : L.length=j) (hb : m + j≤100000000000)
    (k : R P l base kp Q nx (fr.put d (.slL id 0 (m + j) 1)) ((C.del b).put id ((encI (K++L)).map AV.d)) Z) : R P ((n,⟨some d,none,.app [(.int .i64 0)] 8 s x⟩) :: l) base kp Q nx fr C Z:=by
  subst hid hm hj
  refine r_w (v:=.slL (base + n) 0 (K.length + L.length) 1) (C':=(C.del b).put (base + n) ((encI (K++L)).map AV.d)) ?_ k
  have h2 : srcOf C 1 (.d (.sl (encI L) L.length))=some ((encI L).map AV.d,L.length):=by
    unfold srcOf
    split
    · rename_i e;cases e
    · rename_i e;cases e;rw [if_pos (by rw [encI_len];omega)]
    · rename_i e;cases e
    · rename_i h1 h2 h3;exact absurd rfl (h2 _ _)
  have hone : ((encI L).map AV.d).all AV.one=true:=by simp [encI,AV.one]
  simp only [xw,List.length_cons,List.length_nil,Nat.zero_add,hx,h2,Option.bind_some,hs,hC]
  rw [if_pos hone,if_pos ⟨trivial,hz,by simp [encI],by omega⟩,List.take_of_length_le (by simp [encI])]
  simp [encI]
theorem r_callLI {f : FuncId} {xs : List X} {b m : Nat} {L : List Int} {r : AV} {us : List Nat} (ha : xs.map (X.ev fr)=[.slL b 0 m 1]) (hC : C b=some ((encI L).map AV.d)) (hm : L.length=m) (hg : Good P f [.d (.sl (encI L) m)] none r none none) (hu : (if r.scalar=true then [] else if m=0 then [] else [b])=us)
    (k : R P l base kp Q nx (fr.put d r) C (Z.add us)) : R P ((n,⟨some d,none,.call f xs none false⟩) :: l) base kp Q nx fr C Z:=by
  subst hu
  refine r_call (bs:=[.d (.sl (encI L) m)]) (us:=(if m=0 then [] else [b])++[]) ha ?_ hg (by simp) k
  simp only [convAs,convA,conv_slI (ex:=fun _=>false) rfl hC hm,Option.map_some,Option.bind_some]
end
set_option maxRecDepth 100000
set_option maxHeartbeats 4000000
attribute [local irreducible] W E R KP thenK blockK retK Good xwp aRun
end Go.Sv
namespace Go.Sv
open Go Go.Proofs
set_option maxRecDepth 100000
set_option maxHeartbeats 4000000
attribute [local irreducible] W E R KP thenK blockK retK Good xwp aRun
end Go.Sv
namespace Go.Sv
open Go Go.Proofs
section
variable {P : Program} {Q : Cont} {fr : Fr} {C : Heap} {Z : Frz} {nx : Nat} {base n d0 : Nat} {l : List (Nat × XO)} {kp : Option (List Nat)} {x y : X}
end
set_option maxRecDepth 100000
set_option maxHeartbeats 4000000
attribute [local irreducible] W E R KP thenK blockK retK Good xwp aRun
end Go.Sv
namespace Go.Sv
open Go Go.Proofs
set_option maxRecDepth 100000
set_option maxHeartbeats 4000000
attribute [local irreducible] W E R KP thenK blockK retK Good xwp aRun
end Go.Sv
namespace Go.Sv
open Go Go.Proofs
section
variable {P : Program} {Q : Cont} {fr : Fr} {C : Heap} {Z : Frz} {nx : Nat} {base n d : Nat} {l : List (Nat × XO)} {kp : Option (List Nat)} {x i y s : X} {j : Nat}
end
set_option maxRecDepth 100000
set_option maxHeartbeats 4000000
attribute [local irreducible] W E R KP thenK blockK retK Good xwp aRun
end Go.Sv
namespace Go.Sv
open Go Go.Proofs
section
variable {P : Program} {Q : Cont} {fr : Fr} {C : Heap} {Z : Frz} {nx : Nat} {base n d : Nat} {l : List (Nat × XO)} {kp : Option (List Nat)} {x i y s : X} {j : Nat}
end
set_option maxRecDepth 100000
set_option maxHeartbeats 4000000
attribute [local irreducible] W E R KP thenK blockK retK Good xwp aRun
end Go.Sv
namespace Go.Sv
open Go Go.Proofs

section
variable {P : Program} {Q : Cont} {fr : Fr} {C : Heap} {Z : Frz} {nx : Nat} {base n d : Nat} {l : List (Nat × XO)} {kp : Option (List Nat)} {x i y s : X} {j : Nat}
end
set_option maxRecDepth 100000
set_option maxHeartbeats 4000000
attribute [local irreducible] W E R KP thenK blockK retK Good xwp aRun
end Go.Sv
namespace Go.Sv
open Go
mutual
def nnT : T→Bool
  | .node k a b c d mn mx subs=>if k=2 then isZero a b c d else if k=3 then nnAny subs else if k=4 then nnAll subs else if k=5 then decide (0 < mn) && nnFst subs else false
def nnAny : List T→Bool
  | []=>false
  | t :: l=>nnT t || nnAny l
def nnAll : List T→Bool
  | []=>true
  | t :: l=>nnT t && nnAll l
def nnFst : List T→Bool
  | []=>false
  | t :: _=>nnT t
end
theorem nnAny_drop (l : List T) (i : Nat) (h : i < l.length) : nnAny (l.drop i)=(nnT l[i] || nnAny (l.drop (i + 1))):=by
  rw [List.drop_eq_getElem_cons h,nnAny]
theorem nnAll_drop (l : List T) (i : Nat) (h : i < l.length) : nnAll (l.drop i)=(nnT l[i] && nnAll (l.drop (i + 1))):=by
  rw [List.drop_eq_getElem_cons h,nnAll]
theorem zero_iff {a b c d : Int} (ha : okW a) (hb : okW b) (hc : okW c) (hd : okW d) : isZero a b c d=true↔∀ x,x < 256→inG a b c d x=false:=by
  constructor
  · intro h
    simp [isZero] at h
    obtain ⟨rfl,rfl,rfl,rfl⟩:=h
    exact fun x _=>inG_0 x
  · intro h
    have key : ∀ (w : Int) (j : Nat),okW w→[a,b,c,d][j]?=some w→j < 4→w=0:=by
      intro w j hw hj hlt
      obtain ⟨n,rfl,hn⟩:=okW_nat hw
      have : n=0:=by
        refine Nat.eq_of_testBit_eq fun i=>?_
        rw [Nat.zero_testBit]
        rcases Nat.lt_or_ge i 64 with hi | hi
        · have:=h (64 * j + i) (by omega)
          unfold inG at this
          rw [show (64 * j + i) / 64=j by omega,List.getD_eq_getElem?_getD,hj,Option.getD_some,bitG_nat,show (64 * j + i) % 64=i by omega] at this
          exact this
        · exact Nat.testBit_lt_two_pow (Nat.lt_of_lt_of_le hn (Nat.pow_le_pow_right (by omega) hi))
      omega
    have e0:=key a 0 ha rfl (by omega)
    have e1:=key b 1 hb rfl (by omega)
    have e2:=key c 2 hc rfl (by omega)
    have e3:=key d 3 hd rfl (by omega)
    simp [isZero,e0,e1,e2,e3]
theorem inG_lt {a b c d : Int} {x : Nat} (h : inG a b c d x=true) : x < 256:=by
  rcases Nat.lt_or_ge x 256 with h1 | h1
  · exact h1
  · unfold inG at h
    rw [List.getD_eq_getElem?_getD,List.getElem?_eq_none (by simp;omega),Option.getD_none,bitG_0] at h
    cases h
mutual
theorem nnT_L : ∀ t : T,okT t→(nnT t=true↔∀ w,¬ L t w)
  | .node k a b c d mn mx subs,ho=>by
    have hs:=okT_subs ho
    have hp:=okT_plain ho
    have hR:=okT_R ho
    have h3:=nnAny_L subs hs
    have h4:=nnAll_L subs hs
    have h5:=nnFst_L subs hs
    have hS:=okT_S ho
    rw [nnT]
    by_cases k2 : k=2
    · rw [if_pos k2]
      subst k2
      rw [zero_iff hS.1 hS.2.1 hS.2.2.1 hS.2.2.2]
      constructor
      · intro h w hw
        rw [L_k2] at hw
        obtain ⟨x,_,hx⟩:=hw
        rw [h x (inG_lt hx)] at hx;cases hx
      · intro h x _
        cases e : inG a b c d x with
        | false=>rfl
        | true=>exact absurd (L_k2.2 ⟨x,rfl,e⟩) (h [x])
    rw [if_neg k2]
    by_cases k3 : k=3
    · rw [if_pos k3]
      subst k3
      rw [h3]
      simp only [L_k3]
    rw [if_neg k3]
    by_cases k4 : k=4
    · rw [if_pos k4]
      subst k4
      rw [h4]
      simp only [L_k4]
    rw [if_neg k4]
    by_cases k5 : k=5
    · rw [if_pos k5]
      subst k5
      obtain ⟨u,rfl⟩:=plainT_5 hp
      obtain ⟨hm,hm2⟩:=hR rfl
      have h5:=h5 (by simp)
      rw [Bool.and_eq_true,h5,decide_eq_true_eq]
      constructor
      · rintro ⟨h1,h2⟩ w hw
        rw [L_k5] at hw
        obtain ⟨r,g1,g2,g3⟩:=hw
        exact powL_no h2 (by omega) w g3
      · intro h
        constructor
        · rcases Int.lt_or_le 0 mn with h1 | h1
          · exact h1
          · exfalso
            refine h [] ?_
            rw [L_k5]
            exact ⟨0,by omega,by omega,rfl⟩
        · intro w hw
          obtain ⟨m,rfl⟩:=Int.eq_ofNat_of_zero_le hm.1
          have : ∀ r : Nat,∃ v,powL (fstL [u]) r v:=by
            intro r
            induction r with
            | zero=>exact ⟨[],rfl⟩
            | succ r ih =>
              obtain ⟨v,hv⟩:=ih
              exact ⟨w++v,w,v,rfl,hw,hv⟩
          obtain ⟨v,hv⟩:=this m
          refine h v ?_
          rw [L_k5]
          exact ⟨m,by omega,by omega,hv⟩
    · rw [if_neg k5]
      have k1 : k=1:=by have:=(plainT_kind hp).1;omega
      subst k1
      constructor
      · intro h;cases h
      · intro h;exact absurd (L_k1.2 rfl) (h [])
theorem nnAny_L : ∀ l : List T,okL l→(nnAny l=true↔∀ w,¬ catL l w)
  | [],_=>by
    constructor
    · intro h;cases h
    · intro h;exact absurd rfl (h [])
  | t :: l,ho=>by
    simp only [okL] at ho
    have h1:=nnT_L t ho.1
    have h2:=nnAny_L l ho.2
    rw [nnAny,Bool.or_eq_true,h1,h2]
    constructor
    · rintro (h | h) w ⟨u,v,_,hu,hv⟩
      · exact h u hu
      · exact h v hv
    · intro h
      by_cases hn : ∀ w,¬ L t w
      · exact .inl hn
      · right
        intro v hv
        have : ∃ u,L t u:=Classical.byContradiction fun hc=>hn fun w hw=>hc ⟨w,hw⟩
        obtain ⟨u,hu⟩:=this
        exact h (u++v) ⟨u,v,rfl,hu,hv⟩
theorem nnAll_L : ∀ l : List T,okL l→(nnAll l=true↔∀ w,¬ altL l w)
  | [],_=>by simp [nnAll,altL]
  | t :: l,ho=>by
    simp only [okL] at ho
    rw [nnAll,Bool.and_eq_true,nnT_L t ho.1,nnAll_L l ho.2]
    simp only [altL,not_or]
    exact ⟨fun h w=>⟨h.1 w,h.2 w⟩,fun h=>⟨fun w=>(h w).1,fun w=>(h w).2⟩⟩
theorem nnFst_L : ∀ l : List T,okL l→l ≠ []→(nnFst l=true↔∀ w,¬ fstL l w)
  | [],_,h=>absurd rfl h
  | t :: l,ho,_=>by
    simp only [okL] at ho
    rw [nnFst,nnT_L t ho.1]
    simp only [fstL]
end
noncomputable def lenS (P : List Nat→Prop) (m : Nat) : List Bool:=(List.range (m + 1)).map fun k=>@decide (∃ w,P w∧w.length=k) (Classical.propDecidable _)
theorem lenS_len (P : List Nat→Prop) (m : Nat) : (lenS P m).length=m + 1:=by simp [lenS]
theorem at_lenS (P : List Nat→Prop) (m k : Nat) : At (lenS P m) k↔k≤m∧∃ w,P w∧w.length=k:=by
  unfold At lenS
  rw [List.getD_eq_getElem?_getD,List.getElem?_map]
  rcases Nat.lt_or_ge k (m + 1) with h | h
  · rw [List.getElem?_range h]
    simp only [Option.map_some,Option.getD_some,decide_eq_true_eq]
    exact ⟨fun h2=>⟨by omega,h2⟩,fun h2=>h2.2⟩
  · rw [List.getElem?_eq_none (by simpa using h)]
    simp only [Option.map_none,Option.getD_none,Bool.false_eq_true,false_iff]
    omega
theorem lenS_eq {P : List Nat→Prop} {m : Nat} {p : List Bool} (hl : p.length=m + 1) (h : ∀ k,k≤m→(At p k↔∃ w,P w∧w.length=k)) : p=lenS P m:=by
  refine at_ext (by rw [hl,lenS_len]) fun k=>?_
  rw [at_lenS]
  constructor
  · intro hk
    have:=hk.lt
    exact ⟨by omega,(h k (by omega)).1 hk⟩
  · rintro ⟨h1,h2⟩;exact (h k h1).2 h2
theorem lenS_congr {P Q : List Nat→Prop} (h : ∀ w,P w↔Q w) (m : Nat) : lenS P m=lenS Q m:=by
  have : P=Q:=funext fun w=>propext (h w)
  rw [this]
def joinB (a b : List Bool) : List Bool:=(List.range a.length).map fun n=>(List.range (n + 1)).any fun i=>a.getD i false && b.getD (n - i) false
theorem joinB_len (a b : List Bool) : (joinB a b).length=a.length:=by simp [joinB]
theorem at_joinB (a b : List Bool) (n : Nat) : At (joinB a b) n↔n < a.length∧∃ i,i≤n∧At a i∧At b (n - i):=by
  unfold At joinB
  rw [List.getD_eq_getElem?_getD,List.getElem?_map]
  rcases Nat.lt_or_ge n a.length with h | h
  · rw [List.getElem?_range h]
    simp only [Option.map_some,Option.getD_some,List.any_eq_true,List.mem_range,Bool.and_eq_true]
    constructor
    · rintro ⟨i,h1,h2,h3⟩;exact ⟨h,i,by omega,h2,h3⟩
    · rintro ⟨_,i,h1,h2,h3⟩;exact ⟨i,by omega,h2,h3⟩
  · rw [List.getElem?_eq_none (by simpa using h)]
    simp only [Option.map_none,Option.getD_none,Bool.false_eq_true,false_iff]
    omega
theorem joinB_eq {a b p : List Bool} (hl : p.length=a.length) (h : ∀ n,n < a.length→(At p n↔∃ i,i≤n∧At a i∧At b (n - i))) : p=joinB a b:=by
  refine at_ext (by rw [hl,joinB_len]) fun n=>?_
  rw [at_joinB]
  constructor
  · intro hn
    have:=hn.lt
    exact ⟨by omega,(h n (by omega)).1 hn⟩
  · rintro ⟨h1,h2⟩;exact (h n h1).2 h2
theorem joinB_lenS (P Q : List Nat→Prop) (m : Nat) : joinB (lenS P m) (lenS Q m)=lenS (fun w=>∃ u v,w=u++v∧P u∧Q v) m:=by
  refine lenS_eq (by rw [joinB_len,lenS_len]) fun k hk=>?_
  rw [at_joinB,lenS_len]
  constructor
  · rintro ⟨_,i,h1,h2,h3⟩
    obtain ⟨_,u,hu,rfl⟩:=(at_lenS P m i).1 h2
    obtain ⟨_,v,hv,h4⟩:=(at_lenS Q m _).1 h3
    exact ⟨u++v,⟨u,v,rfl,hu,hv⟩,by rw [List.length_append];omega⟩
  · rintro ⟨w,⟨u,v,rfl,hu,hv⟩,h⟩
    rw [List.length_append] at h
    exact ⟨by omega,u.length,by omega,(at_lenS P m _).2 ⟨by omega,u,hu,rfl⟩,(at_lenS Q m _).2 ⟨by omega,v,hv,by omega⟩⟩
theorem powL_drop {P : List Nat→Prop} : ∀ (r : Nat) (w : List Nat),powL P (r + 1) w→w.length < r + 1→powL P r w
  | 0,w,⟨u,v,e,h1,h2⟩,hl=>by
    have : w=[]:=List.length_eq_zero_iff.1 (by omega)
    exact this
  | r + 1,w,⟨u,v,e,h1,h2⟩,hl=>by
    subst e
    rw [List.length_append] at hl
    rcases Nat.eq_zero_or_pos u.length with h0 | h0
    · have : u=[]:=List.length_eq_zero_iff.1 h0
      subst this
      exact h2
    · exact ⟨u,v,rfl,h1,powL_drop r v h2 (by omega)⟩
theorem powL_cut {P : List Nat→Prop} (w : List Nat) (q : Nat) (hq : w.length≤q) : ∀ r,q≤r→powL P r w→powL P q w:=by
  intro r
  induction r with
  | zero =>
    intro h hw
    have : q=0:=by omega
    subst this;exact hw
  | succ r ih =>
    intro h hw
    rcases Nat.lt_or_ge r q with h1 | h1
    · have : q=r + 1:=by omega
      subst this;exact hw
    · exact ih h1 (powL_drop r w hw (by omega))
noncomputable def firstL (P : List Nat→Prop) : List Nat:=(List.range 256).filter fun x=>@decide (∃ w,P (x :: w)) (Classical.propDecidable _)
theorem mem_firstL (P : List Nat→Prop) (x : Nat) : x ∈ firstL P↔x < 256∧∃ w,P (x :: w):=by
  simp only [firstL,List.mem_filter,List.mem_range,decide_eq_true_eq]
end Go.Sv
namespace Go.Sv
open Go
theorem setWs_same {l r : List Nat} (hl : ∀ x ∈ l,x < 256) (hr : ∀ x ∈ r,x < 256) (h : ∀ y,y < 256→(y ∈ l↔y ∈ r)) : setWs l=setWs r:=by
  obtain ⟨a1,a2⟩:=setWs_ok hl
  obtain ⟨b1,b2⟩:=setWs_ok hr
  refine words_ext a1 b1 fun y hy=>?_
  rw [Bool.eq_iff_iff,a2 y hy,b2 y hy]
  exact h y hy
theorem firstL_lt (P : List Nat→Prop) : ∀ x ∈ firstL P,x < 256:=fun x h=>((mem_firstL P x).1 h).1
theorem firstL_none {P : List Nat→Prop} (h : ∀ w,¬ P w) : firstL P=[]:=by
  rw [List.eq_nil_iff_forall_not_mem]
  intro x hx
  obtain ⟨_,w,hw⟩:=(mem_firstL P x).1 hx
  exact h _ hw
theorem first_eq {P : List Nat→Prop} {l : List Nat} (hl : ∀ x ∈ l,x < 256) (h : ∀ y,y < 256→(y ∈ l↔∃ w,P (y :: w))) : setWs l=setWs (firstL P):=by
  refine setWs_same hl (firstL_lt P) fun y hy=>?_
  rw [h y hy,mem_firstL]
  exact ⟨fun h=>⟨hy,h⟩,fun h=>h.2⟩
theorem catL_first : ∀ (l : List T),(∀ j (h : j < l.length),∃ w,L l[j] w)→∀ y,(∃ w,catL l (y :: w))↔∃ j,∃ h : j < l.length,(∀ i (hi : i < l.length),i < j→L l[i] [])∧∃ w,L l[j] (y :: w)
  | [],_,y=>by
    constructor
    · rintro ⟨w,h⟩;simp [catL] at h
    · rintro ⟨j,h,_⟩;simp at h
  | t :: l,hw,y=>by
    have ih:=catL_first l (fun j h=>hw (j + 1) (by simpa using h)) y
    constructor
    · rintro ⟨w,u,v,e,hu,hv⟩
      cases u with
      | nil =>
        simp only [List.nil_append] at e
        subst e
        obtain ⟨j,h,h1,h2⟩:=ih.1 ⟨w,hv⟩
        refine ⟨j + 1,by simpa using h,fun i hi hij=>?_,by simpa using h2⟩
        cases i with
        | zero=>exact hu
        | succ i=>exact h1 i (by simpa using hi) (by omega)
      | cons x u =>
        simp only [List.cons_append,List.cons.injEq] at e
        obtain ⟨rfl,rfl⟩:=e
        exact ⟨0,by simp,fun i _ h=>by omega,u,hu⟩
    · rintro ⟨j,h,h1,w,h2⟩
      cases j with
      | zero =>
        have : ∃ v,catL l v:=by
          clear ih h1 h h2
          induction l with
          | nil=>exact ⟨[],rfl⟩
          | cons t2 l ih2 =>
            obtain ⟨a,ha⟩:=hw 1 (by simp)
            obtain ⟨b,hb⟩:=ih2 (fun j h=>by
              cases j with
              | zero=>exact hw 0 (by simp)
              | succ j=>exact hw (j + 2) (by simpa using h))
            exact ⟨a++b,a,b,rfl,ha,hb⟩
        obtain ⟨v,hv⟩:=this
        exact ⟨w++v,y :: w,v,rfl,h2,hv⟩
      | succ j =>
        obtain ⟨w',hw'⟩:=ih.2 ⟨j,by simpa using h,fun i hi hij=>h1 (i + 1) (by simpa using hi) (by omega),w,by simpa using h2⟩
        exact ⟨w',[],y :: w',rfl,h1 0 (by simp) (by omega),hw'⟩
theorem altL_first (l : List T) (y : Nat) : (∃ w,altL l (y :: w))↔∃ j,∃ h : j < l.length,∃ w,L l[j] (y :: w):=by
  induction l with
  | nil =>
    constructor
    · rintro ⟨w,h⟩;exact h.elim
    · rintro ⟨j,h,_⟩;simp at h
  | cons t l ih =>
    constructor
    · rintro ⟨w,h | h⟩
      · exact ⟨0,by simp,w,h⟩
      · obtain ⟨j,hj,hw⟩:=ih.1 ⟨w,h⟩
        exact ⟨j + 1,by simpa using hj,by simpa using hw⟩
    · rintro ⟨j,hj,w,hw⟩
      cases j with
      | zero=>exact ⟨w,.inl hw⟩
      | succ j =>
        obtain ⟨w',h⟩:=ih.2 ⟨j,by simpa using hj,w,by simpa using hw⟩
        exact ⟨w',.inr h⟩
theorem powL_first {P : List Nat→Prop} {y : Nat} : ∀ (r : Nat) (w : List Nat),powL P r (y :: w)→∃ w',P (y :: w')
  | 0,w,h=>by simp [powL] at h
  | r + 1,w,⟨u,v,e,h1,h2⟩=>by
    cases u with
    | nil =>
      simp only [List.nil_append] at e
      subst e
      exact powL_first r w h2
    | cons x u =>
      simp only [List.cons_append,List.cons.injEq] at e
      obtain ⟨rfl,rfl⟩:=e
      exact ⟨u,h1⟩
theorem powL_some {P : List Nat→Prop} {w : List Nat} (h : P w) : ∀ r : Nat,∃ v,powL P r v
  | 0=>⟨[],rfl⟩
  | r + 1=>by
    obtain ⟨v,hv⟩:=powL_some h r
    exact ⟨w++v,w,v,rfl,h,hv⟩
theorem rep_first {P : List Nat→Prop} {mn mx : Int} (h0 : 0≤mn) (hm : mx=-1 ∨ mn≤mx) (hx : mx ≠ 0) (y : Nat) : (∃ w,∃ r : Nat,mn≤r∧(mx < 0 ∨ (r : Int)≤mx)∧powL P r (y :: w))↔∃ w,P (y :: w):=by
  constructor
  · rintro ⟨w,r,_,_,h⟩;exact powL_first r w h
  · rintro ⟨w,h⟩
    obtain ⟨m,rfl⟩:=Int.eq_ofNat_of_zero_le h0
    obtain ⟨v,hv⟩:=powL_some h (m - 1)
    refine ⟨w++v,(m - 1) + 1,by omega,by omega,y :: w,v,rfl,h,hv⟩
end Go.Sv
