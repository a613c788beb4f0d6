/- A part of the proof of the law EndsParts: that it answers true for every input, and that the input reads behind the call as before (no condition). -/
import Derived.Test.YtcnlgmajkclgjaaEndsPartsG1
import Derived.SizedLaws
set_option linter.all false
set_option linter.unusedSectionVars false
set_option linter.unusedVariables false
set_option linter.unusedSimpArgs false
namespace Go.Sv
open Go Go.Proofs Go.Proofs.Ytcnlgmajkclgjaa Go.ChangeShapes Go.WideShapes Go.ChangeAt Go.RowKit Go.ChangeMaps
theorem endsParts_z2 : (Rows.endsPartsRow.inPlace == Try.pinned.checked.prog.inPlace 8) = true := by kernel_rfl
theorem endsParts_z3 : (Rows.endsPartsRow.unfollowed == Try.pinned.checked.prog.unfollowed 8) = true := by kernel_rfl
theorem endsParts_z4 : (Rows.endsPartsRow.recurses == Try.pinned.checked.prog.recurses 8) = true := by kernel_rfl
theorem endsParts_z5 : (Rows.endsPartsRow.named == Try.pinned.checked.prog.varsNamed 8) = true := by kernel_rfl
theorem endsParts_facts : joinedFacts Try.pinned.checked.prog 8 Try.f8 Rows.endsPartsSpec Rows.endsPartsRow = true := joined_of (by kernel_rfl) endsParts_z2 endsParts_z3 endsParts_z4 endsParts_z5 (by kernel_rfl) try_mayEnter try_lifts try_make (by kernel_rfl)
set_option maxRecDepth 100000 in
theorem endsParts_lifted (os : Os) (started : os.Started) (H : Type) (enc : TypeId × Value → H) :
    ReturnsInHanded {} Try.checked os 8 .any (Rows.endsPartsSpec.pre6 enc Try.prog Try.f8 Rows.endsPartsRow.domain false) (Rows.endsPartsSpec.post enc Try.prog Try.f8 false true false false) := by
  refine returnsInHanded_of_change_sized (C := Try.checked) try_own started (by kernel_rfl) Try.func8
    (ChangeSpec.witness6 (enc := enc) (C := Try.checked) false ⟨#[], #[.agg #[.int .i64 0, .int .u64 0, .int .u64 0, .int .u64 0, .int .u64 0, .int .i64 0, .int .i64 0, .slice none 0 0], .agg #[.int .i64 0, .int .u64 0, .int .u64 0, .int .u64 0, .int .u64 0, .int .i64 0, .int .i64 0, .slice none 0 0], .string ⟨#[]⟩, .int .i64 0], []⟩ 8 (by kernel_rfl) (by kernel_rfl) (by kernel_rfl) (by kernel_rfl)) ?_
  intro W base args ds gs before hval0 hW hcnd hsz0 _
  have hval : ∀ (j : Nat) t v, Try.f8.params[j]? = some t → args[j]? = some v → Value.okWide Try.prog W .any base t v := hval0
  have hW' := hW
  obtain ⟨p, q, hA0, hV, rfl, hfz, hnd⟩ := hW
  have hA : DataW.TrodAll enc Try.prog W 0 (fun _ => true) true Try.f8.params.toList args.toList ds p := hA0
  rw [Try.params8] at hA hval
  have hsz : (DataW.weightsEach Try.prog (Try.f8.params.toList ++ Rows.endsPartsSpec.plain.varTypes Try.prog) (ds ++ gs)).all (· ≤ reachBytes) = true := hsz0
  rw [Try.params8] at hsz
  clear hsz0
  obtain ⟨v0, v1, v2, v3, d0, d1, d2, d3, p0, p1, p2, p3, rfl, rfl, rfl, h0, h1, h2, h3⟩ := trodAll_four hA
  obtain ⟨rfl, rfl⟩ := trodVars_none hV
  obtain ⟨t0, wt0, ha0⟩ := arg_node (hval 0 27 v0 rfl rfl) h0
  obtain ⟨t1, wt1, ha1⟩ := arg_node (hval 1 27 v1 rfl rfl) h1
  obtain ⟨s2, rfl, rfl, rfl, _⟩ := open_string Try.underlying9 (hval 2 9 v2 rfl rfl) h2
  obtain ⟨n3, rfl, rfl, rfl, wn3⟩ := open_int Try.underlying3 (hval 3 3 v3 rfl rfl) h3
  refine (law_calls (law8 t0 t1 s2 n3 wt0 wt1 (by have := weights_str (j := 2) hsz rfl rfl; omega) (wf_i64 wn3)) (RAs.mk (vs := [v0, v1, .string s2, .int .i64 n3]) rfl ?_)).mono fun e W' ⟨he, hb⟩ => ?_
  · intro j v a hj ha
    match j with
    | 0 => cases hj; cases ha; exact ha0
    | 1 => cases hj; cases ha; exact ha1
    | 2 => cases hj; cases ha; exact arg_str
    | 3 => cases hj; cases ha; exact arg_int
    | j + 4 => simp at hj
  · exact ⟨_, he, law_post hW' rfl rfl rfl rfl (by kernel_rfl) hb (by rw [Try.params8]; exact fun t ht => rowed t ((by decide : ∀ t ∈ [27, 27, 9, 3], t ∈ [27, 9, 3, 5, 41]) t ht))⟩
theorem endsParts_row : Rows.EndsPartsSaid :=
  OpenClaim.holds_of_wide 8 Try.f8 rfl rfl rfl rfl rfl rfl rfl ⟨rfl, rfl, rfl, rfl, rfl⟩ rfl rfl rfl rfl rfl (by kernel_rfl) Try.func8 endsParts_facts
    (of_decide_eq_true (by kernel_rfl)) (by unfold Func.isWrapper; rw [if_neg (of_decide_eq_false (by kernel_rfl))]; exact ⟨rfl, rfl⟩)
    (fun os started H enc _ => endsParts_lifted os started H enc)
end Go.Sv
namespace Go.Proofs.Ytcnlgmajkclgjaa
theorem endsParts_holds : Rows.EndsPartsSaid := Go.Sv.endsParts_row
#print axioms endsParts_holds
end Go.Proofs.Ytcnlgmajkclgjaa
