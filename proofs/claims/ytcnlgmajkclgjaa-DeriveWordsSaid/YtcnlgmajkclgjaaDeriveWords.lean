/- A part of the proof of the law DeriveWords: that it answers true for every input, and that the input reads behind the call as before (no condition). -/
import Derived.Test.YtcnlgmajkclgjaaDeriveWordsG8
import Derived.SizedLaws
set_option linter.all false
set_option linter.unusedSectionVars false
set_option linter.unusedVariables false
set_option linter.unusedSimpArgs false
namespace Go.Sv
open Go Go.Proofs Go.Proofs.Ytcnlgmajkclgjaa Go.ChangeShapes Go.WideShapes Go.ChangeAt Go.RowKit Go.ChangeMaps
theorem deriveWords_z2 : (Rows.deriveWordsRow.inPlace == Try.pinned.checked.prog.inPlace 26)=true:=by kernel_rfl
theorem deriveWords_z3 : (Rows.deriveWordsRow.unfollowed == Try.pinned.checked.prog.unfollowed 26)=true:=by kernel_rfl
theorem deriveWords_z4 : (Rows.deriveWordsRow.recurses == Try.pinned.checked.prog.recurses 26)=true:=by kernel_rfl
theorem deriveWords_z5 : (Rows.deriveWordsRow.named == Try.pinned.checked.prog.varsNamed 26)=true:=by kernel_rfl
theorem deriveWords_facts : joinedFacts Try.pinned.checked.prog 26 Try.f26 Rows.deriveWordsSpec Rows.deriveWordsRow=true:=joined_of (by kernel_rfl) deriveWords_z2 deriveWords_z3 deriveWords_z4 deriveWords_z5 (by kernel_rfl) try_mayEnter try_lifts try_make (by kernel_rfl)
set_option maxRecDepth 100000 in
theorem deriveWords_lifted (os : Os) (started : os.Started) (H : Type) (enc : TypeId × Value→H) :
    ReturnsInHanded {} Try.checked os 26 .any (Rows.deriveWordsSpec.pre6 enc Try.prog Try.f26 Rows.deriveWordsRow.domain false) (Rows.deriveWordsSpec.post enc Try.prog Try.f26 false true false false):=by
  refine returnsInHanded_of_change_sized (C:=Try.checked) try_own started (by kernel_rfl) Try.func26
    (ChangeSpec.witness6 (enc:=enc) (C:=Try.checked) false ⟨#[],#[.agg #[.int .i64 0,.int .u64 0,.int .u64 0,.int .u64 0,.int .u64 0,.int .i64 0,.int .i64 0,.slice none 0 0],.string ⟨#[]⟩,.string ⟨#[]⟩],[]⟩ 8 (by kernel_rfl) (by kernel_rfl) (by kernel_rfl) (by kernel_rfl)) ?_
  intro W base args ds gs before hval0 hW hcnd hsz0 _
  have hval : ∀ (j : Nat) t v,Try.f26.params[j]?=some t→args[j]?=some v→Value.okWide Try.prog W .any base t v:=hval0
  have hW':=hW
  obtain ⟨p,q,hA0,hV,rfl,hfz,hnd⟩:=hW
  have hA : DataW.TrodAll enc Try.prog W 0 (fun _=>true) true Try.f26.params.toList args.toList ds p:=hA0
  rw [Try.params26] at hA hval
  have hsz : (DataW.weightsEach Try.prog (Try.f26.params.toList++Rows.deriveWordsSpec.plain.varTypes Try.prog) (ds++gs)).all (·≤reachBytes)=true:=hsz0
  rw [Try.params26] at hsz
  clear hsz0
  obtain ⟨v0,v1,v2,d0,d1,d2,p0,p1,p2,rfl,rfl,rfl,h0,h1,h2⟩:=trodAll_three hA
  obtain ⟨rfl,rfl⟩:=trodVars_none hV
  obtain ⟨t0,wt0,ha0⟩:=arg_node (hval 0 27 v0 rfl rfl) h0
  obtain ⟨s1,rfl,rfl,rfl,_⟩:=open_string Try.underlying9 (hval 1 9 v1 rfl rfl) h1
  obtain ⟨s2,rfl,rfl,rfl,_⟩:=open_string Try.underlying9 (hval 2 9 v2 rfl rfl) h2
  refine (law_calls (law26 t0 s1 s2 wt0 (by have:=weights_str (j:=1) hsz rfl rfl;omega) (by have:=weights_str (j:=2) hsz rfl rfl;omega)) (RAs.mk (vs:=[v0,.string s1,.string s2]) rfl ?_)).mono fun e W' ⟨he,hb⟩=>?_
  · intro j v a hj ha
    match j with
    | 0=>cases hj;cases ha;exact ha0
    | 1=>cases hj;cases ha;exact arg_str
    | 2=>cases hj;cases ha;exact arg_str
    | j + 3=>simp at hj
  · exact ⟨_,he,law_post hW' rfl rfl rfl rfl (by kernel_rfl) hb (by rw [Try.params26];exact fun t ht=>rowed t ((by decide : ∀ t ∈ [27,9,9],t ∈ [27,9,3,5,41]) t ht))⟩
theorem deriveWords_row : Rows.DeriveWordsSaid :=
  OpenClaim.holds_of_wide 26 Try.f26 rfl rfl rfl rfl rfl rfl rfl ⟨rfl,rfl,rfl,rfl,rfl⟩ rfl rfl rfl rfl rfl (by kernel_rfl) Try.func26 deriveWords_facts
    (of_decide_eq_true (by kernel_rfl)) (by unfold Func.isWrapper;rw [if_neg (of_decide_eq_false (by kernel_rfl))];exact ⟨rfl,rfl⟩)
    (fun os started H enc _=>deriveWords_lifted os started H enc)
end Go.Sv
namespace Go.Proofs.Ytcnlgmajkclgjaa
theorem deriveWords_holds : Rows.DeriveWordsSaid:=Go.Sv.deriveWords_row
#print axioms deriveWords_holds
end Go.Proofs.Ytcnlgmajkclgjaa
