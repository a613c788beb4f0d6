/- A part of the proof of the law DeriveSimple: that it answers true for every input, and that the input reads behind the call as before (no condition). -/
import Derived.Test.YtcnlgmajkclgjaaDeriveSimpleG10
import Derived.SizedLaws
set_option linter.all false
set_option linter.unusedSectionVars false
set_option linter.unusedVariables false
set_option linter.unusedSimpArgs false
namespace Go.Sv
open Go Go.Proofs Go.Proofs.Ytcnlgmajkclgjaa Go.ChangeShapes Go.WideShapes Go.ChangeAt Go.RowKit Go.ChangeMaps
theorem deriveSimple_z2 : (Rows.deriveSimpleRow.inPlace == Try.pinned.checked.prog.inPlace 28)=true:=by kernel_rfl
theorem deriveSimple_z3 : (Rows.deriveSimpleRow.unfollowed == Try.pinned.checked.prog.unfollowed 28)=true:=by kernel_rfl
theorem deriveSimple_z4 : (Rows.deriveSimpleRow.recurses == Try.pinned.checked.prog.recurses 28)=true:=by kernel_rfl
theorem deriveSimple_z5 : (Rows.deriveSimpleRow.named == Try.pinned.checked.prog.varsNamed 28)=true:=by kernel_rfl
theorem deriveSimple_facts : joinedFacts Try.pinned.checked.prog 28 Try.f28 Rows.deriveSimpleSpec Rows.deriveSimpleRow=true:=joined_of (by kernel_rfl) deriveSimple_z2 deriveSimple_z3 deriveSimple_z4 deriveSimple_z5 (by kernel_rfl) try_mayEnter try_lifts try_make (by kernel_rfl)
set_option maxRecDepth 100000 in
theorem deriveSimple_lifted (os : Os) (started : os.Started) (H : Type) (enc : TypeId × Value→H) :
    ReturnsInHanded {} Try.checked os 28 .any (Rows.deriveSimpleSpec.pre6 enc Try.prog Try.f28 Rows.deriveSimpleRow.domain false) (Rows.deriveSimpleSpec.post enc Try.prog Try.f28 false true false false):=by
  refine returnsInHanded_of_change_sized (C:=Try.checked) try_own started (by kernel_rfl) Try.func28
    (ChangeSpec.witness6 (enc:=enc) (C:=Try.checked) false ⟨#[],#[.agg #[.int .i64 0,.int .u64 0,.int .u64 0,.int .u64 0,.int .u64 0,.int .i64 0,.int .i64 0,.slice none 0 0],.agg #[.int .i64 0,.int .u64 0,.int .u64 0,.int .u64 0,.int .u64 0,.int .i64 0,.int .i64 0,.slice none 0 0],.int .u8 0],[]⟩ 8 (by kernel_rfl) (by kernel_rfl) (by kernel_rfl) (by kernel_rfl)) ?_
  intro W base args ds gs before hval0 hW hcnd hsz0 _
  have hval : ∀ (j : Nat) t v,Try.f28.params[j]?=some t→args[j]?=some v→Value.okWide Try.prog W .any base t v:=hval0
  have hW':=hW
  obtain ⟨p,q,hA0,hV,rfl,hfz,hnd⟩:=hW
  have hA : DataW.TrodAll enc Try.prog W 0 (fun _=>true) true Try.f28.params.toList args.toList ds p:=hA0
  rw [Try.params28] at hA hval
  have hsz : (DataW.weightsEach Try.prog (Try.f28.params.toList++Rows.deriveSimpleSpec.plain.varTypes Try.prog) (ds++gs)).all (·≤reachBytes)=true:=hsz0
  rw [Try.params28] at hsz
  clear hsz0
  obtain ⟨v0,v1,v2,d0,d1,d2,p0,p1,p2,rfl,rfl,rfl,h0,h1,h2⟩:=trodAll_three hA
  obtain ⟨rfl,rfl⟩:=trodVars_none hV
  obtain ⟨t0,wt0,ha0⟩:=arg_node (hval 0 27 v0 rfl rfl) h0
  obtain ⟨t1,wt1,ha1⟩:=arg_node (hval 1 27 v1 rfl rfl) h1
  obtain ⟨n2,rfl,rfl,rfl,wn2⟩:=open_int Try.underlying5 (hval 2 5 v2 rfl rfl) h2
  refine (law_calls (law28 t0 t1 n2 wt0 wt1 (wf_u8 wn2)) (RAs.mk (vs:=[v0,v1,.int .u8 n2]) rfl ?_)).mono fun e W' ⟨he,hb⟩=>?_
  · intro j v a hj ha
    match j with
    | 0=>cases hj;cases ha;exact ha0
    | 1=>cases hj;cases ha;exact ha1
    | 2=>cases hj;cases ha;exact arg_int
    | j + 3=>simp at hj
  · exact ⟨_,he,law_post hW' rfl rfl rfl rfl (by kernel_rfl) hb (by rw [Try.params28];exact fun t ht=>rowed t ((by decide : ∀ t ∈ [27,27,5],t ∈ [27,9,3,5,41]) t ht))⟩
theorem deriveSimple_row : Rows.DeriveSimpleSaid :=
  OpenClaim.holds_of_wide 28 Try.f28 rfl rfl rfl rfl rfl rfl rfl ⟨rfl,rfl,rfl,rfl,rfl⟩ rfl rfl rfl rfl rfl (by kernel_rfl) Try.func28 deriveSimple_facts
    (of_decide_eq_true (by kernel_rfl)) (by unfold Func.isWrapper;rw [if_neg (of_decide_eq_false (by kernel_rfl))];exact ⟨rfl,rfl⟩)
    (fun os started H enc _=>deriveSimple_lifted os started H enc)
end Go.Sv
namespace Go.Proofs.Ytcnlgmajkclgjaa
theorem deriveSimple_holds : Rows.DeriveSimpleSaid:=Go.Sv.deriveSimple_row
#print axioms deriveSimple_holds
end Go.Proofs.Ytcnlgmajkclgjaa
