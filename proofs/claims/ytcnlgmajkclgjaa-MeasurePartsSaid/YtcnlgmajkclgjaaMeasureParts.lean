/- A part of the proof of the law MeasureParts: that it answers true for every input, and that the input reads behind the call as before (no condition). -/
import Derived.Test.YtcnlgmajkclgjaaMeasurePartsG7
import Derived.SizedLaws
set_option linter.all false
set_option linter.unusedSectionVars false
set_option linter.unusedVariables false
set_option linter.unusedSimpArgs false
namespace Go.Sv
open Go Go.Proofs Go.Proofs.Ytcnlgmajkclgjaa Go.ChangeShapes Go.WideShapes Go.ChangeAt Go.RowKit Go.ChangeMaps
theorem measureParts_z2 : (Rows.measurePartsRow.inPlace == Try.pinned.checked.prog.inPlace 22) = true := by kernel_rfl
theorem measureParts_z3 : (Rows.measurePartsRow.unfollowed == Try.pinned.checked.prog.unfollowed 22) = true := by kernel_rfl
theorem measureParts_z4 : (Rows.measurePartsRow.recurses == Try.pinned.checked.prog.recurses 22) = true := by kernel_rfl
theorem measureParts_z5 : (Rows.measurePartsRow.named == Try.pinned.checked.prog.varsNamed 22) = true := by kernel_rfl
theorem measureParts_facts : joinedFacts Try.pinned.checked.prog 22 Try.f22 Rows.measurePartsSpec Rows.measurePartsRow = true := joined_of (by kernel_rfl) measureParts_z2 measureParts_z3 measureParts_z4 measureParts_z5 (by kernel_rfl) try_mayEnter try_lifts try_make (by kernel_rfl)
set_option maxRecDepth 100000 in
theorem measureParts_lifted (os : Os) (started : os.Started) (H : Type) (enc : TypeId × Value → H) :
    ReturnsInHanded {} Try.checked os 22 .any (Rows.measurePartsSpec.pre6 enc Try.prog Try.f22 Rows.measurePartsRow.domain false) (Rows.measurePartsSpec.post enc Try.prog Try.f22 false true false false) := by
  refine returnsInHanded_of_change_sized (C := Try.checked) try_own started (by kernel_rfl) Try.func22
    (ChangeSpec.witness6 (enc := enc) (C := Try.checked) false ⟨#[], #[.agg #[.int .i64 0, .int .u64 0, .int .u64 0, .int .u64 0, .int .u64 0, .int .i64 0, .int .i64 0, .slice none 0 0], .agg #[.int .i64 0, .int .u64 0, .int .u64 0, .int .u64 0, .int .u64 0, .int .i64 0, .int .i64 0, .slice none 0 0]], []⟩ 8 (by kernel_rfl) (by kernel_rfl) (by kernel_rfl) (by kernel_rfl)) ?_
  intro W base args ds gs before hval0 hW hcnd hsz0 _
  have hval : ∀ (j : Nat) t v, Try.f22.params[j]? = some t → args[j]? = some v → Value.okWide Try.prog W .any base t v := hval0
  have hW' := hW
  obtain ⟨p, q, hA0, hV, rfl, hfz, hnd⟩ := hW
  have hA : DataW.TrodAll enc Try.prog W 0 (fun _ => true) true Try.f22.params.toList args.toList ds p := hA0
  rw [Try.params22] at hA hval
  have hsz : (DataW.weightsEach Try.prog (Try.f22.params.toList ++ Rows.measurePartsSpec.plain.varTypes Try.prog) (ds ++ gs)).all (· ≤ reachBytes) = true := hsz0
  rw [Try.params22] at hsz
  clear hsz0
  obtain ⟨v0, v1, d0, d1, p0, p1, rfl, rfl, rfl, h0, h1⟩ := trodAll_two hA
  obtain ⟨rfl, rfl⟩ := trodVars_none hV
  obtain ⟨t0, wt0, ha0⟩ := arg_node (hval 0 27 v0 rfl rfl) h0
  obtain ⟨t1, wt1, ha1⟩ := arg_node (hval 1 27 v1 rfl rfl) h1
  refine (law_calls (law22 t0 t1 wt0 wt1) (RAs.mk (vs := [v0, v1]) rfl ?_)).mono fun e W' ⟨he, hb⟩ => ?_
  · intro j v a hj ha
    match j with
    | 0 => cases hj; cases ha; exact ha0
    | 1 => cases hj; cases ha; exact ha1
    | j + 2 => simp at hj
  · exact ⟨_, he, law_post hW' rfl rfl rfl rfl (by kernel_rfl) hb (by rw [Try.params22]; exact fun t ht => rowed t ((by decide : ∀ t ∈ [27, 27], t ∈ [27, 9, 3, 5, 41]) t ht))⟩
theorem measureParts_row : Rows.MeasurePartsSaid :=
  OpenClaim.holds_of_wide 22 Try.f22 rfl rfl rfl rfl rfl rfl rfl ⟨rfl, rfl, rfl, rfl, rfl⟩ rfl rfl rfl rfl rfl (by kernel_rfl) Try.func22 measureParts_facts
    (of_decide_eq_true (by kernel_rfl)) (by unfold Func.isWrapper; rw [if_neg (of_decide_eq_false (by kernel_rfl))]; exact ⟨rfl, rfl⟩)
    (fun os started H enc _ => measureParts_lifted os started H enc)
end Go.Sv
namespace Go.Proofs.Ytcnlgmajkclgjaa
theorem measureParts_holds : Rows.MeasurePartsSaid := Go.Sv.measureParts_row
#print axioms measureParts_holds
end Go.Proofs.Ytcnlgmajkclgjaa
