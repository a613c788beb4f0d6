/- A part of the proof of the law MeasureLengths: that it answers true for every input, and that the input reads behind the call as before (no condition). -/
import Derived.Test.YtcnlgmajkclgjaaMeasureLengthsG7
import Derived.SizedLaws
set_option linter.all false
set_option linter.unusedSectionVars false
set_option linter.unusedVariables false
set_option linter.unusedSimpArgs false
namespace Go.Sv
open Go Go.Proofs Go.Proofs.Ytcnlgmajkclgjaa Go.ChangeShapes Go.WideShapes Go.ChangeAt Go.RowKit Go.ChangeMaps
theorem measureLengths_z2 : (Rows.measureLengthsRow.inPlace == Try.pinned.checked.prog.inPlace 21) = true := by kernel_rfl
theorem measureLengths_z3 : (Rows.measureLengthsRow.unfollowed == Try.pinned.checked.prog.unfollowed 21) = true := by kernel_rfl
theorem measureLengths_z4 : (Rows.measureLengthsRow.recurses == Try.pinned.checked.prog.recurses 21) = true := by kernel_rfl
theorem measureLengths_z5 : (Rows.measureLengthsRow.named == Try.pinned.checked.prog.varsNamed 21) = true := by kernel_rfl
theorem measureLengths_facts : joinedFacts Try.pinned.checked.prog 21 Try.f21 Rows.measureLengthsSpec Rows.measureLengthsRow = true := joined_of (by kernel_rfl) measureLengths_z2 measureLengths_z3 measureLengths_z4 measureLengths_z5 (by kernel_rfl) try_mayEnter try_lifts try_make (by kernel_rfl)
set_option maxRecDepth 100000 in
theorem measureLengths_lifted (os : Os) (started : os.Started) (H : Type) (enc : TypeId × Value → H) :
    ReturnsInHanded {} Try.checked os 21 .any (Rows.measureLengthsSpec.pre6 enc Try.prog Try.f21 Rows.measureLengthsRow.domain false) (Rows.measureLengthsSpec.post enc Try.prog Try.f21 false true false false) := by
  refine returnsInHanded_of_change_sized (C := Try.checked) try_own started (by kernel_rfl) Try.func21
    (ChangeSpec.witness6 (enc := enc) (C := Try.checked) false ⟨#[], #[.agg #[.int .i64 0, .int .u64 0, .int .u64 0, .int .u64 0, .int .u64 0, .int .i64 0, .int .i64 0, .slice none 0 0], .int .i64 0], []⟩ 8 (by kernel_rfl) (by kernel_rfl) (by kernel_rfl) (by kernel_rfl)) ?_
  intro W base args ds gs before hval0 hW hcnd hsz0 _
  have hval : ∀ (j : Nat) t v, Try.f21.params[j]? = some t → args[j]? = some v → Value.okWide Try.prog W .any base t v := hval0
  have hW' := hW
  obtain ⟨p, q, hA0, hV, rfl, hfz, hnd⟩ := hW
  have hA : DataW.TrodAll enc Try.prog W 0 (fun _ => true) true Try.f21.params.toList args.toList ds p := hA0
  rw [Try.params21] at hA hval
  have hsz : (DataW.weightsEach Try.prog (Try.f21.params.toList ++ Rows.measureLengthsSpec.plain.varTypes Try.prog) (ds ++ gs)).all (· ≤ reachBytes) = true := hsz0
  rw [Try.params21] at hsz
  clear hsz0
  obtain ⟨v0, v1, d0, d1, p0, p1, rfl, rfl, rfl, h0, h1⟩ := trodAll_two hA
  obtain ⟨rfl, rfl⟩ := trodVars_none hV
  obtain ⟨t0, wt0, ha0⟩ := arg_node (hval 0 27 v0 rfl rfl) h0
  obtain ⟨n1, rfl, rfl, rfl, wn1⟩ := open_int Try.underlying3 (hval 1 3 v1 rfl rfl) h1
  refine (law_calls (law21 t0 n1 wt0 (wf_i64 wn1)) (RAs.mk (vs := [v0, .int .i64 n1]) rfl ?_)).mono fun e W' ⟨he, hb⟩ => ?_
  · intro j v a hj ha
    match j with
    | 0 => cases hj; cases ha; exact ha0
    | 1 => cases hj; cases ha; exact arg_int
    | j + 2 => simp at hj
  · exact ⟨_, he, law_post hW' rfl rfl rfl rfl (by kernel_rfl) hb (by rw [Try.params21]; exact fun t ht => rowed t ((by decide : ∀ t ∈ [27, 3], t ∈ [27, 9, 3, 5, 41]) t ht))⟩
theorem measureLengths_row : Rows.MeasureLengthsSaid :=
  OpenClaim.holds_of_wide 21 Try.f21 rfl rfl rfl rfl rfl rfl rfl ⟨rfl, rfl, rfl, rfl, rfl⟩ rfl rfl rfl rfl rfl (by kernel_rfl) Try.func21 measureLengths_facts
    (of_decide_eq_true (by kernel_rfl)) (by unfold Func.isWrapper; rw [if_neg (of_decide_eq_false (by kernel_rfl))]; exact ⟨rfl, rfl⟩)
    (fun os started H enc _ => measureLengths_lifted os started H enc)
end Go.Sv
namespace Go.Proofs.Ytcnlgmajkclgjaa
theorem measureLengths_holds : Rows.MeasureLengthsSaid := Go.Sv.measureLengths_row
#print axioms measureLengths_holds
end Go.Proofs.Ytcnlgmajkclgjaa
