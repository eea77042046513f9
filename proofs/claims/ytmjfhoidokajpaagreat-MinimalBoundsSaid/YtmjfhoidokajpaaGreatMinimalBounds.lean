/- MinimalBounds: for every input the law answers true, and its arguments read as they did. -/
import Derived.Test.YtmjfhoidokajpaaGreatRow7
import Derived.Test.YtmjfhoidokajpaaGreatM22
set_option maxHeartbeats 1000000
set_option maxRecDepth 4000
set_option linter.unusedSimpArgs false
set_option linter.unusedVariables false
set_option linter.unusedSectionVars false
namespace Go.Proofs.YtmjfhoidokajpaaGreat.minimalBounds
open Go.ChangeShapes Go.WideShapes Go.ChangeAt Go.RowKit Go.Sx Go.Sx.Pn

set_option maxRecDepth 100000 in
theorem lifted (os : Os) (started : os.Started) (H : Type) (enc : TypeId × Value → H) :
    ReturnsInHanded {} Tryz.checked os 8 .any (Rows.minimalBoundsSpec.pre6 enc Tryz.prog Tryz.f8 Rows.minimalBoundsRow.domain false) (Rows.minimalBoundsSpec.post enc Tryz.prog Tryz.f8 false true false false) := by
  refine returnsInHanded_of_change (C := Tryz.checked) row_own started (by kernel_rfl) Tryz.func8
    (ChangeSpec.witness6 (enc := enc) (C := Tryz.checked) false ⟨#[], #[.agg #[.int .i64 0, .int .u64 0, .int .i64 0, .int .u64 0], .slice none 0 0], []⟩ 8 (by kernel_rfl) (by kernel_rfl) (by kernel_rfl) (by kernel_rfl)) ?_
  intro W base args ds gs before hval0 hW hcnd _
  have hval : ∀ (j : Nat) t v, Tryz.f8.params[j]? = some t → args[j]? = some v → Value.okWide Tryz.prog W .any base t v := hval0
  have hW' := hW
  obtain ⟨p, q, hA0, hV, rfl, hfz, hnd⟩ := hW
  obtain ⟨rfl, rfl⟩ := trodVars_none hV
  have hA : DataW.TrodAll enc Tryz.prog W 0 (fun _ => true) true Tryz.f8.params.toList args.toList ds p := hA0
  have hA1 := hA
  rw [Tryz.params8] at hA hval
  clear hA0 hval0
  obtain ⟨v0, vs0, d0, ds0, p0, q0, hargs0, rfl, rfl, ⟨fu0, h0⟩, r0⟩ := trodAll_cons hA
  obtain ⟨v1, vs1, d1, ds1, p1, q1, hargs1, rfl, rfl, ⟨fu1, h1⟩, r1⟩ := trodAll_cons r0
  obtain ⟨rfl, rfl, rfl⟩ := trodAll_nil r1
  obtain rfl : args = #[v0, v1] := by cases args; simp_all
  obtain ⟨l0, s0, e0⟩ := trod_rep argTypes7_ok fu0 27 _ _ (by decide) h0
  obtain ⟨a0, S0⟩ := arg_task (hval 0 _ v0 rfl rfl) s0 e0
  obtain ⟨l1, s1, e1⟩ := trod_rep argTypes7_ok fu1 22 _ _ (by decide) h1
  obtain ⟨a1, S1⟩ := arg_cubes (hval 1 _ v1 rfl rfl) s1 e1
  simp only [List.append_nil] at hW' hA1
  refine (law_calls bounds_law (a0, a1) trivial W _ (argsRep_of (vs := [v0, v1]) (ai S0 (ai S1 trivial)))).mono fun e W' ⟨he, hg⟩ => ?_
  subst he
  exact ⟨_, rfl, post_true argTypes7_ok Tryz.underlying4 (by kernel_rfl) hW' rfl hA1 (by rw [Tryz.params8]; decide) rfl hg⟩

theorem proved : Rows.MinimalBoundsSaid :=
  OpenClaim.holds_of_wide 8 Tryz.f8 rfl rfl rfl rfl rfl rfl rfl ⟨rfl, rfl, rfl, rfl, rfl⟩ rfl rfl rfl rfl rfl (by kernel_rfl) Tryz.func8 (by kernel_rfl)
    (of_decide_eq_true (by kernel_rfl)) (by unfold Func.isWrapper; first | (rw [if_pos (by decide +kernel)]; kernel_rfl) | (rw [if_neg (by decide +kernel)]; exact ⟨rfl, rfl⟩))
    (fun os started H enc _ => lifted os started H enc)

end Go.Proofs.YtmjfhoidokajpaaGreat.minimalBounds
