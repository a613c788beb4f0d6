/- A part of the proof of the law DeriveFirst: that it answers true for every input, and that the input reads behind the call as before (no condition). -/
import Derived.Test.YtcnlgmajkclgjaaDeriveFirstG8
import Derived.SizedLaws
set_option linter.all false
set_option linter.unusedSectionVars false
set_option linter.unusedVariables false
set_option linter.unusedSimpArgs false
namespace Go.Sv
open Go Go.Proofs Go.Proofs.Ytcnlgmajkclgjaa Go.ChangeShapes Go.WideShapes Go.ChangeAt Go.RowKit Go.ChangeMaps
theorem deriveFirst_z2 : (Rows.deriveFirstRow.inPlace == Try.pinned.checked.prog.inPlace 27)=true:=by kernel_rfl
theorem deriveFirst_z3 : (Rows.deriveFirstRow.unfollowed == Try.pinned.checked.prog.unfollowed 27)=true:=by kernel_rfl
theorem deriveFirst_z4 : (Rows.deriveFirstRow.recurses == Try.pinned.checked.prog.recurses 27)=true:=by kernel_rfl
theorem deriveFirst_z5 : (Rows.deriveFirstRow.named == Try.pinned.checked.prog.varsNamed 27)=true:=by kernel_rfl
theorem deriveFirst_facts : joinedFacts Try.pinned.checked.prog 27 Try.f27 Rows.deriveFirstSpec Rows.deriveFirstRow=true:=joined_of (by kernel_rfl) deriveFirst_z2 deriveFirst_z3 deriveFirst_z4 deriveFirst_z5 (by kernel_rfl) try_mayEnter try_lifts try_make (by kernel_rfl)
set_option maxRecDepth 100000 in
theorem deriveFirst_lifted (os : Os) (started : os.Started) (H : Type) (enc : TypeId × Value→H) :
    ReturnsInHanded {} Try.checked os 27 .any (Rows.deriveFirstSpec.pre6 enc Try.prog Try.f27 Rows.deriveFirstRow.domain false) (Rows.deriveFirstSpec.post enc Try.prog Try.f27 false true false false):=by
  refine returnsInHanded_of_change_sized (C:=Try.checked) try_own started (by kernel_rfl) Try.func27
    (ChangeSpec.witness6 (enc:=enc) (C:=Try.checked) false ⟨#[],#[.agg #[.int .i64 0,.int .u64 0,.int .u64 0,.int .u64 0,.int .u64 0,.int .i64 0,.int .i64 0,.slice none 0 0],.int .u8 0],[]⟩ 8 (by kernel_rfl) (by kernel_rfl) (by kernel_rfl) (by kernel_rfl)) ?_
  intro W base args ds gs before hval0 hW hcnd hsz0 _
  have hval : ∀ (j : Nat) t v,Try.f27.params[j]?=some t→args[j]?=some v→Value.okWide Try.prog W .any base t v:=hval0
  have hW':=hW
  obtain ⟨p,q,hA0,hV,rfl,hfz,hnd⟩:=hW
  have hA : DataW.TrodAll enc Try.prog W 0 (fun _=>true) true Try.f27.params.toList args.toList ds p:=hA0
  rw [Try.params27] at hA hval
  have hsz : (DataW.weightsEach Try.prog (Try.f27.params.toList++Rows.deriveFirstSpec.plain.varTypes Try.prog) (ds++gs)).all (·≤reachBytes)=true:=hsz0
  rw [Try.params27] at hsz
  clear hsz0
  obtain ⟨v0,v1,d0,d1,p0,p1,rfl,rfl,rfl,h0,h1⟩:=trodAll_two hA
  obtain ⟨rfl,rfl⟩:=trodVars_none hV
  obtain ⟨t0,wt0,ha0⟩:=arg_node (hval 0 27 v0 rfl rfl) h0
  obtain ⟨n1,rfl,rfl,rfl,wn1⟩:=open_int Try.underlying5 (hval 1 5 v1 rfl rfl) h1
  refine (law_calls (law27 t0 n1 wt0 (wf_u8 wn1)) (RAs.mk (vs:=[v0,.int .u8 n1]) rfl ?_)).mono fun e W' ⟨he,hb⟩=>?_
  · intro j v a hj ha
    match j with
    | 0=>cases hj;cases ha;exact ha0
    | 1=>cases hj;cases ha;exact arg_int
    | j + 2=>simp at hj
  · exact ⟨_,he,law_post hW' rfl rfl rfl rfl (by kernel_rfl) hb (by rw [Try.params27];exact fun t ht=>rowed t ((by decide : ∀ t ∈ [27,5],t ∈ [27,9,3,5,41]) t ht))⟩
theorem deriveFirst_row : Rows.DeriveFirstSaid :=
  OpenClaim.holds_of_wide 27 Try.f27 rfl rfl rfl rfl rfl rfl rfl ⟨rfl,rfl,rfl,rfl,rfl⟩ rfl rfl rfl rfl rfl (by kernel_rfl) Try.func27 deriveFirst_facts
    (of_decide_eq_true (by kernel_rfl)) (by unfold Func.isWrapper;rw [if_neg (of_decide_eq_false (by kernel_rfl))];exact ⟨rfl,rfl⟩)
    (fun os started H enc _=>deriveFirst_lifted os started H enc)
end Go.Sv
namespace Go.Proofs.Ytcnlgmajkclgjaa
theorem deriveFirst_holds : Rows.DeriveFirstSaid:=Go.Sv.deriveFirst_row
#print axioms deriveFirst_holds
end Go.Proofs.Ytcnlgmajkclgjaa
