/- A part of the proof of the law EndsMatch: that it answers true for every input, and that the input reads behind the call as before (no condition). -/
import Derived.Test.YtcnlgmajkclgjaaEndsMatchG1
import Derived.SizedLaws
set_option linter.all false
set_option linter.unusedSectionVars false
set_option linter.unusedVariables false
set_option linter.unusedSimpArgs false
namespace Go.Sv
open Go Go.Proofs Go.Proofs.Ytcnlgmajkclgjaa Go.ChangeShapes Go.WideShapes Go.ChangeAt Go.RowKit Go.ChangeMaps
theorem endsMatch_z2 : (Rows.endsMatchRow.inPlace == Try.pinned.checked.prog.inPlace 4) = true := by kernel_rfl
theorem endsMatch_z3 : (Rows.endsMatchRow.unfollowed == Try.pinned.checked.prog.unfollowed 4) = true := by kernel_rfl
theorem endsMatch_z4 : (Rows.endsMatchRow.recurses == Try.pinned.checked.prog.recurses 4) = true := by kernel_rfl
theorem endsMatch_z5 : (Rows.endsMatchRow.named == Try.pinned.checked.prog.varsNamed 4) = true := by kernel_rfl
theorem endsMatch_facts : joinedFacts Try.pinned.checked.prog 4 Try.f4 Rows.endsMatchSpec Rows.endsMatchRow = true := joined_of (by kernel_rfl) endsMatch_z2 endsMatch_z3 endsMatch_z4 endsMatch_z5 (by kernel_rfl) try_mayEnter try_lifts try_make (by kernel_rfl)
set_option maxRecDepth 100000 in
theorem endsMatch_lifted (os : Os) (started : os.Started) (H : Type) (enc : TypeId × Value → H) :
    ReturnsInHanded {} Try.checked os 4 .any (Rows.endsMatchSpec.pre6 enc Try.prog Try.f4 Rows.endsMatchRow.domain false) (Rows.endsMatchSpec.post enc Try.prog Try.f4 false true false false) := by
  refine returnsInHanded_of_change_sized (C := Try.checked) try_own started (by kernel_rfl) Try.func4
    (ChangeSpec.witness6 (enc := enc) (C := Try.checked) false ⟨#[], #[.agg #[.int .i64 0, .int .u64 0, .int .u64 0, .int .u64 0, .int .u64 0, .int .i64 0, .int .i64 0, .slice none 0 0], .string ⟨#[]⟩], []⟩ 8 (by kernel_rfl) (by kernel_rfl) (by kernel_rfl) (by kernel_rfl)) ?_
  intro W base args ds gs before hval0 hW hcnd hsz0 _
  have hval : ∀ (j : Nat) t v, Try.f4.params[j]? = some t → args[j]? = some v → Value.okWide Try.prog W .any base t v := hval0
  have hW' := hW
  obtain ⟨p, q, hA0, hV, rfl, hfz, hnd⟩ := hW
  have hA : DataW.TrodAll enc Try.prog W 0 (fun _ => true) true Try.f4.params.toList args.toList ds p := hA0
  rw [Try.params4] at hA hval
  have hsz : (DataW.weightsEach Try.prog (Try.f4.params.toList ++ Rows.endsMatchSpec.plain.varTypes Try.prog) (ds ++ gs)).all (· ≤ reachBytes) = true := hsz0
  rw [Try.params4] at hsz
  clear hsz0
  obtain ⟨v0, v1, d0, d1, p0, p1, rfl, rfl, rfl, h0, h1⟩ := trodAll_two hA
  obtain ⟨rfl, rfl⟩ := trodVars_none hV
  obtain ⟨t0, wt0, ha0⟩ := arg_node (hval 0 27 v0 rfl rfl) h0
  obtain ⟨s1, rfl, rfl, rfl, _⟩ := open_string Try.underlying9 (hval 1 9 v1 rfl rfl) h1
  refine (law_calls (law4 t0 s1 wt0 (by have := weights_str (j := 1) hsz rfl rfl; omega)) (RAs.mk (vs := [v0, .string s1]) rfl ?_)).mono fun e W' ⟨he, hb⟩ => ?_
  · intro j v a hj ha
    match j with
    | 0 => cases hj; cases ha; exact ha0
    | 1 => cases hj; cases ha; exact arg_str
    | j + 2 => simp at hj
  · exact ⟨_, he, law_post hW' rfl rfl rfl rfl (by kernel_rfl) hb (by rw [Try.params4]; exact fun t ht => rowed t ((by decide : ∀ t ∈ [27, 9], t ∈ [27, 9, 3, 5, 41]) t ht))⟩
theorem endsMatch_row : Rows.EndsMatchSaid :=
  OpenClaim.holds_of_wide 4 Try.f4 rfl rfl rfl rfl rfl rfl rfl ⟨rfl, rfl, rfl, rfl, rfl⟩ rfl rfl rfl rfl rfl (by kernel_rfl) Try.func4 endsMatch_facts
    (of_decide_eq_true (by kernel_rfl)) (by unfold Func.isWrapper; rw [if_neg (of_decide_eq_false (by kernel_rfl))]; exact ⟨rfl, rfl⟩)
    (fun os started H enc _ => endsMatch_lifted os started H enc)
end Go.Sv
namespace Go.Proofs.Ytcnlgmajkclgjaa
theorem endsMatch_holds : Rows.EndsMatchSaid := Go.Sv.endsMatch_row
#print axioms endsMatch_holds
end Go.Proofs.Ytcnlgmajkclgjaa
