/-
  The proof of 'Rows.BlockTellsSaid': for every input the law returns true, and each argument reads behind the call as it read before. No condition beyond the row's own.
-/
import Derived.Test.YtlofjhcjjcohfaaFacts
import Derived.Test.YtlofjhcjjcohfaaOpen
import Derived.Test.YtlofjhcjjcohfaaOpenBlk
import Derived.Test.YtlofjhcjjcohfaaLaw13c
import Derived.ShutString
import Derived.Below
namespace Go.Proofs.Ytlofjhcjjcohfaa.blockTellsDone
open Go.ChangeShapes Go.WideShapes Go.ChangeAt Go.RowKit Iv
open Go.ChangeMaps (open_string shut_string)
set_option linter.unusedVariables false

theorem own : ownKnob Try.prog.godebug = none := by kernel_rfl
theorem laidOut : laidOutB Try.prog = true := by kernel_rfl

set_option maxRecDepth 100000 in
set_option maxHeartbeats 1000000 in
theorem lifted (os : Os) (started : os.Started) (H : Type) (enc : TypeId × Value → H) :
    ReturnsInHanded {} Try.checked os 4 .any (Rows.blockTellsSpec.pre6 enc Try.prog Try.f4 Rows.blockTellsRow.domain false) (Rows.blockTellsSpec.post enc Try.prog Try.f4 false true false false) := by
  refine returnsInHanded_of_change (C := Try.checked) own started (by kernel_rfl) Try.func4
    (ChangeSpec.witness6 (enc := enc) (C := Try.checked) false ⟨#[], #[.agg #[.int .i64 0, .int .i64 0, .slice none 0 0]], []⟩ 8 (by kernel_rfl) (by kernel_rfl) (by kernel_rfl) (by kernel_rfl)) ?_
  intro W base args ds gs before hval0 hW hcnd _
  have hval : ∀ (j : Nat) t v, Try.f4.params[j]? = some t → args[j]? = some v → Value.okWide Try.prog W .any base t v := hval0
  have hW' := hW
  obtain ⟨p, q, hA0, hV, rfl, hfz, hnd⟩ := hW
  have hA : DataW.TrodAll enc Try.prog W 0 (fun _ => true) true Try.f4.params.toList args.toList ds p := hA0
  rw [Try.params4] at hA hval
  obtain ⟨v0, vs0, d0, ds0, p0, q0, hargs, rfl, rfl, h0, r0⟩ := trodAll_cons hA
  obtain ⟨rfl, rfl, rfl⟩ := trodAll_nil r0
  obtain rfl : args = #[v0] := by cases args; simp_all
  obtain ⟨rfl, rfl⟩ := trodVars_none hV
  have k0 := h0
  have lt0 : ∀ x ∈ p0, x.block < W.heap.size := by obtain ⟨m, hm⟩ := k0; exact DataW.trod_lt m _ _ _ hm
  obtain ⟨bk0, Ea0, na0, ca0, rfl, w0⟩ := open_blk (hval 0 38 v0 rfl rfl) h0
  clear hA0 hval0
  refine (blockTells_any bk0 Ea0 na0 ca0 W w0.1 w0.2.1 w0.2.2.1 w0.2.2.2.1).mono fun e W' ⟨he, bel⟩ => ?_
  subst he
  exact ⟨_, rfl, _, _, _, [], _, [], hW', trodAll_mk1 (shut_bool Try.underlying4 _), (trodAll_cons_mk (Below.trod laidOut (by kernel_rfl) (of_decide_eq_true (by kernel_rfl)) k0 bel lt0) trodAll_mk0), rfl, bel.frame _, fun h => by cases h⟩

theorem closed : joinedFacts Try.checked.prog 4 Try.f4 Rows.blockTellsSpec Rows.blockTellsRow = true :=
  closed_of Try.prog 4 Try.f4 Rows.blockTellsSpec Rows.blockTellsRow (by as_aux_lemma => kernel_rfl) fact_laid fact_rowed (by as_aux_lemma => kernel_rfl) (by as_aux_lemma => kernel_rfl) (by as_aux_lemma => kernel_rfl) fact_stops (by as_aux_lemma => kernel_rfl) fact_knobs (by as_aux_lemma => kernel_rfl) (by as_aux_lemma => kernel_rfl) (by as_aux_lemma => kernel_rfl) (by as_aux_lemma => kernel_rfl) (by as_aux_lemma => kernel_rfl) (by as_aux_lemma => kernel_rfl) (by as_aux_lemma => kernel_rfl) (by as_aux_lemma => kernel_rfl) (by as_aux_lemma => kernel_rfl) (by as_aux_lemma => kernel_rfl) (by as_aux_lemma => kernel_rfl) (by as_aux_lemma => kernel_rfl) (by as_aux_lemma => kernel_rfl) (by rw [fact_plain]; rfl) (by as_aux_lemma => kernel_rfl) fact_heard fact_enter (by rw [fact_final]; rfl) (by rw [fact_make]; kernel_rfl) (by as_aux_lemma => kernel_rfl) (by as_aux_lemma => kernel_rfl) (by as_aux_lemma => kernel_rfl) (by as_aux_lemma => kernel_rfl)

theorem over : Rows.blockTellsRow.holds Try.pinned (OpenSpec.ofChange Rows.blockTellsSpec) :=
  OpenClaim.holds_of_wide 4 Try.f4 rfl rfl rfl rfl rfl rfl rfl ⟨rfl, rfl, rfl, rfl, rfl⟩ rfl rfl rfl rfl rfl (by kernel_rfl) Try.func4 closed
    (of_decide_eq_true (by kernel_rfl)) (by unfold Func.isWrapper; first | (rw [if_pos (by decide +kernel)]; kernel_rfl) | (rw [if_neg (by decide +kernel)]; exact ⟨rfl, rfl⟩))
    (fun os started H enc _ => lifted os started H enc)

/-- The statement. -/
theorem proved : Rows.BlockTellsSaid := over
end Go.Proofs.Ytlofjhcjjcohfaa.blockTellsDone
