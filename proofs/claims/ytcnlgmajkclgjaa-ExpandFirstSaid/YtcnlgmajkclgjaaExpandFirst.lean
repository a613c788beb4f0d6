/- A part of the proof of the law ExpandFirst: that it answers true for every input, and that the input reads behind the call as before (no condition). -/
import Derived.Test.YtcnlgmajkclgjaaExpandFirstG8
import Derived.SizedLaws
set_option linter.all false
set_option linter.unusedSectionVars false
set_option linter.unusedVariables false
set_option linter.unusedSimpArgs false
namespace Go.Sv
open Go Go.Proofs Go.Proofs.Ytcnlgmajkclgjaa Go.ChangeShapes Go.WideShapes Go.ChangeAt Go.RowKit Go.ChangeMaps
theorem expandFirst_z2 : (Rows.expandFirstRow.inPlace == Try.pinned.checked.prog.inPlace 18)=true:=by kernel_rfl
theorem expandFirst_z3 : (Rows.expandFirstRow.unfollowed == Try.pinned.checked.prog.unfollowed 18)=true:=by kernel_rfl
theorem expandFirst_z4 : (Rows.expandFirstRow.recurses == Try.pinned.checked.prog.recurses 18)=true:=by kernel_rfl
theorem expandFirst_z5 : (Rows.expandFirstRow.named == Try.pinned.checked.prog.varsNamed 18)=true:=by kernel_rfl
theorem expandFirst_facts : joinedFacts Try.pinned.checked.prog 18 Try.f18 Rows.expandFirstSpec Rows.expandFirstRow=true:=joined_of (by kernel_rfl) expandFirst_z2 expandFirst_z3 expandFirst_z4 expandFirst_z5 (by kernel_rfl) try_mayEnter try_lifts try_make (by kernel_rfl)
set_option maxRecDepth 100000 in
theorem expandFirst_lifted (os : Os) (started : os.Started) (H : Type) (enc : TypeId × Value→H) :
    ReturnsInHanded {} Try.checked os 18 .any (Rows.expandFirstSpec.pre6 enc Try.prog Try.f18 Rows.expandFirstRow.domain false) (Rows.expandFirstSpec.post enc Try.prog Try.f18 false true false false):=by
  refine returnsInHanded_of_change_sized (C:=Try.checked) try_own started (by kernel_rfl) Try.func18
    (ChangeSpec.witness6 (enc:=enc) (C:=Try.checked) false ⟨#[],#[.agg #[.int .i64 0,.int .u64 0,.int .u64 0,.int .u64 0,.int .u64 0,.int .i64 0,.int .i64 0,.slice none 0 0]],[]⟩ 8 (by kernel_rfl) (by kernel_rfl) (by kernel_rfl) (by kernel_rfl)) ?_
  intro W base args ds gs before hval0 hW hcnd hsz0 _
  have hval : ∀ (j : Nat) t v,Try.f18.params[j]?=some t→args[j]?=some v→Value.okWide Try.prog W .any base t v:=hval0
  have hW':=hW
  obtain ⟨p,q,hA0,hV,rfl,hfz,hnd⟩:=hW
  have hA : DataW.TrodAll enc Try.prog W 0 (fun _=>true) true Try.f18.params.toList args.toList ds p:=hA0
  rw [Try.params18] at hA hval
  have hsz : (DataW.weightsEach Try.prog (Try.f18.params.toList++Rows.expandFirstSpec.plain.varTypes Try.prog) (ds++gs)).all (·≤reachBytes)=true:=hsz0
  rw [Try.params18] at hsz
  clear hsz0
  obtain ⟨v0,d0,rfl,rfl,h0⟩:=trodAll_one hA
  obtain ⟨rfl,rfl⟩:=trodVars_none hV
  obtain ⟨t0,wt0,ha0⟩:=arg_node (hval 0 27 v0 rfl rfl) h0
  refine (law_calls (law18 t0 wt0) (RAs.mk (vs:=[v0]) rfl ?_)).mono fun e W' ⟨he,hb⟩=>?_
  · intro j v a hj ha
    match j with
    | 0=>cases hj;cases ha;exact ha0
    | j + 1=>simp at hj
  · exact ⟨_,he,law_post hW' rfl rfl rfl rfl (by kernel_rfl) hb (by rw [Try.params18];exact fun t ht=>rowed t ((by decide : ∀ t ∈ [27],t ∈ [27,9,3,5,41]) t ht))⟩
theorem expandFirst_row : Rows.ExpandFirstSaid :=
  OpenClaim.holds_of_wide 18 Try.f18 rfl rfl rfl rfl rfl rfl rfl ⟨rfl,rfl,rfl,rfl,rfl⟩ rfl rfl rfl rfl rfl (by kernel_rfl) Try.func18 expandFirst_facts
    (of_decide_eq_true (by kernel_rfl)) (by unfold Func.isWrapper;rw [if_neg (of_decide_eq_false (by kernel_rfl))];exact ⟨rfl,rfl⟩)
    (fun os started H enc _=>expandFirst_lifted os started H enc)
end Go.Sv
namespace Go.Proofs.Ytcnlgmajkclgjaa
theorem expandFirst_holds : Rows.ExpandFirstSaid:=Go.Sv.expandFirst_row
#print axioms expandFirst_holds
end Go.Proofs.Ytcnlgmajkclgjaa
