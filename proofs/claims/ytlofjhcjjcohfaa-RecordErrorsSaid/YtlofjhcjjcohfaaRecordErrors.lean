/-
  The proof of 'Rows.RecordErrorsSaid': for every input the law returns true, and each argument reads behind the call as it read before. No condition beyond the row's own.
-/
import Derived.Test.YtlofjhcjjcohfaaFacts
import Derived.Test.YtlofjhcjjcohfaaOpen
import Derived.Test.YtlofjhcjjcohfaaLaw14c
import Derived.ShutString
import Derived.Below
namespace Go.Proofs.Ytlofjhcjjcohfaa.recordErrorsDone
open Go.ChangeShapes Go.WideShapes Go.ChangeAt Go.RowKit Iv
open Go.ChangeMaps (open_string shut_string)
set_option linter.unusedVariables false

theorem own : ownKnob Try.prog.godebug = none := by kernel_rfl
theorem laidOut : laidOutB Try.prog = true := by kernel_rfl

set_option maxRecDepth 100000 in
set_option maxHeartbeats 1000000 in
theorem lifted (os : Os) (started : os.Started) (H : Type) (enc : TypeId × Value → H) :
    ReturnsInHanded {} Try.checked os 6 .any (Rows.recordErrorsSpec.pre6 enc Try.prog Try.f6 Rows.recordErrorsRow.domain false) (Rows.recordErrorsSpec.post enc Try.prog Try.f6 false true false false) := by
  refine returnsInHanded_of_change (C := Try.checked) own started (by kernel_rfl) Try.func6
    (ChangeSpec.witness6 (enc := enc) (C := Try.checked) false ⟨#[], #[], []⟩ 8 (by kernel_rfl) (by kernel_rfl) (by kernel_rfl) (by kernel_rfl)) ?_
  intro W base args ds gs before hval0 hW hcnd _
  have hval : ∀ (j : Nat) t v, Try.f6.params[j]? = some t → args[j]? = some v → Value.okWide Try.prog W .any base t v := hval0
  have hW' := hW
  obtain ⟨p, q, hA0, hV, rfl, hfz, hnd⟩ := hW
  have hA : DataW.TrodAll enc Try.prog W 0 (fun _ => true) true Try.f6.params.toList args.toList ds p := hA0
  rw [Try.params6] at hA hval
  obtain ⟨rfl, rfl, rfl⟩ := trodAll_none hA
  obtain ⟨rfl, rfl⟩ := trodVars_none hV
  clear hA0 hval0
  refine (recordErrors_any  W ).mono fun e W' ⟨he, bel⟩ => ?_
  subst he
  exact ⟨_, rfl, _, _, _, [], _, [], hW', trodAll_mk1 (shut_bool Try.underlying4 _), rfl, rfl, bel.frame _, fun h => by cases h⟩

theorem closed : joinedFacts Try.checked.prog 6 Try.f6 Rows.recordErrorsSpec Rows.recordErrorsRow = true :=
  closed_of Try.prog 6 Try.f6 Rows.recordErrorsSpec Rows.recordErrorsRow (by as_aux_lemma => kernel_rfl) fact_laid fact_rowed (by as_aux_lemma => kernel_rfl) (by as_aux_lemma => kernel_rfl) (by as_aux_lemma => kernel_rfl) fact_stops (by as_aux_lemma => kernel_rfl) fact_knobs (by as_aux_lemma => kernel_rfl) (by as_aux_lemma => kernel_rfl) (by as_aux_lemma => kernel_rfl) (by as_aux_lemma => kernel_rfl) (by as_aux_lemma => kernel_rfl) (by as_aux_lemma => kernel_rfl) (by as_aux_lemma => kernel_rfl) (by as_aux_lemma => kernel_rfl) (by as_aux_lemma => kernel_rfl) (by as_aux_lemma => kernel_rfl) (by as_aux_lemma => kernel_rfl) (by as_aux_lemma => kernel_rfl) (by as_aux_lemma => kernel_rfl) (by rw [fact_plain]; rfl) (by as_aux_lemma => kernel_rfl) fact_heard fact_enter (by rw [fact_final]; rfl) (by rw [fact_make]; kernel_rfl) (by as_aux_lemma => kernel_rfl) (by as_aux_lemma => kernel_rfl) (by as_aux_lemma => kernel_rfl) (by as_aux_lemma => kernel_rfl)

theorem over : Rows.recordErrorsRow.holds Try.pinned (OpenSpec.ofChange Rows.recordErrorsSpec) :=
  OpenClaim.holds_of_wide 6 Try.f6 rfl rfl rfl rfl rfl rfl rfl ⟨rfl, rfl, rfl, rfl, rfl⟩ rfl rfl rfl rfl rfl (by kernel_rfl) Try.func6 closed
    (of_decide_eq_true (by kernel_rfl)) (by unfold Func.isWrapper; first | (rw [if_pos (by decide +kernel)]; kernel_rfl) | (rw [if_neg (by decide +kernel)]; exact ⟨rfl, rfl⟩))
    (fun os started H enc _ => lifted os started H enc)

/-- The statement. -/
theorem proved : Rows.RecordErrorsSaid := over
end Go.Proofs.Ytlofjhcjjcohfaa.recordErrorsDone
