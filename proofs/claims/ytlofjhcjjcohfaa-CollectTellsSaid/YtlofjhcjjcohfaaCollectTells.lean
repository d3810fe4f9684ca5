/-
  The proof of 'Rows.CollectTellsSaid': for every input the law returns true, and each argument reads behind the call as it read before. No condition beyond the row's own.
-/
import Derived.Test.YtlofjhcjjcohfaaFacts
import Derived.Test.YtlofjhcjjcohfaaOpenRec
import Derived.Test.YtlofjhcjjcohfaaOpenW
import Derived.Test.YtlofjhcjjcohfaaLaw15b
import Derived.ShutString
import Derived.Below
namespace Go.Proofs.Ytlofjhcjjcohfaa.collectTellsDone
open Go.ChangeShapes Go.WideShapes Go.ChangeAt Go.RowKit Iv
open Go.ChangeMaps (open_string shut_string)
set_option linter.unusedVariables false

theorem own : ownKnob Try.prog.godebug = none := by kernel_rfl
theorem laidOut : laidOutB Try.prog = true := by kernel_rfl

set_option maxRecDepth 100000 in
set_option maxHeartbeats 1000000 in
theorem lifted (os : Os) (started : os.Started) (H : Type) (enc : TypeId × Value → H) :
    ReturnsInHanded {} Try.checked os 9 .any (Rows.collectTellsSpec.pre6 enc Try.prog Try.f9 Rows.collectTellsRow.domain false) (Rows.collectTellsSpec.post enc Try.prog Try.f9 false true false false) := by
  refine returnsInHanded_of_change_sized (C := Try.checked) own started (by kernel_rfl) Try.func9
    (ChangeSpec.witness6 (enc := enc) (C := Try.checked) false ⟨#[], #[.agg #[.slice none 0 0, .slice none 0 0, .slice none 0 0, .slice none 0 0, .slice none 0 0, .slice none 0 0], .slice none 0 0], []⟩ 8 (by kernel_rfl) (by kernel_rfl) (by kernel_rfl) (by kernel_rfl)) ?_
  intro W base args ds gs before hval0 hW hcnd hsz0 _
  have hval : ∀ (j : Nat) t v, Try.f9.params[j]? = some t → args[j]? = some v → Value.okWide Try.prog W .any base t v := hval0
  have hW' := hW
  obtain ⟨p, q, hA0, hV, rfl, hfz, hnd⟩ := hW
  have hA : DataW.TrodAll enc Try.prog W 0 (fun _ => true) true Try.f9.params.toList args.toList ds p := hA0
  have hsz : (DataW.weightsEach Try.prog (Try.f9.params.toList ++ Rows.collectTellsSpec.plain.varTypes Try.prog) (ds ++ gs)).all (· ≤ reachBytes) = true := hsz0
  clear hsz0
  rw [Try.params9] at hA hval hsz
  obtain ⟨v0, vs0, d0, ds0, p0, q0, hargs, rfl, rfl, h0, r0⟩ := trodAll_cons hA
  obtain ⟨v1, vs1, d1, ds1, p1, q1, rfl, rfl, rfl, h1, r1⟩ := trodAll_cons r0
  obtain ⟨rfl, rfl, rfl⟩ := trodAll_nil r1
  obtain rfl : args = #[v0, v1] := by cases args; simp_all
  obtain ⟨rfl, rfl⟩ := trodVars_none hV
  have k0 := h0
  have lt0 : ∀ x ∈ p0, x.block < W.heap.size := by obtain ⟨m, hm⟩ := k0; exact DataW.trod_lt m _ _ _ hm
  have hs0 : ∀ n ∈ d0.weights Try.prog 70, n ≤ reachBytes := fun n hn => by simpa using List.all_eq_true.1 hsz _ (DataW.weights_mem_each (j := 0) rfl rfl n hn)
  obtain ⟨Wa00, Wn00, Wc00, Wx00, Wa10, Wn10, Wc10, Wx10, Wa20, Wn20, Wc20, Wx20, Wa30, Wn30, Wc30, Wx30, Wa40, Wn40, Wc40, Wx40, Wa50, Wn50, Wc50, Wx50, rfl, w0⟩ := open_world (hval 0 70 v0 rfl rfl) h0 hs0
  have k1 := h1
  have lt1 : ∀ x ∈ p1, x.block < W.heap.size := by obtain ⟨m, hm⟩ := k1; exact DataW.trod_lt m _ _ _ hm
  obtain ⟨Fa1, Fn1, Fc1, fl1, rfl, w1⟩ := open_files (hval 1 49 v1 rfl rfl) h1
  clear hA0 hval0
  refine (collectTellsArgs Wa00 Wn00 Wc00 Wx00 Wa10 Wn10 Wc10 Wx10 Wa20 Wn20 Wc20 Wx20 Wa30 Wn30 Wc30 Wx30 Wa40 Wn40 Wc40 Wx40 Wa50 Wn50 Wc50 Wx50 Fa1 Fn1 Fc1 fl1 W w0.1 w0.2.1 w0.2.2 w1.1 w1.2).mono fun e W' ⟨he, bel⟩ => ?_
  subst he
  exact ⟨_, rfl, _, _, _, [], _, [], hW', trodAll_mk1 (shut_bool Try.underlying4 _), (trodAll_cons_mk (Below.trod laidOut (by kernel_rfl) (of_decide_eq_true (by kernel_rfl)) k0 bel lt0) (trodAll_cons_mk (Below.trod laidOut (by kernel_rfl) (of_decide_eq_true (by kernel_rfl)) k1 bel lt1) trodAll_mk0)), rfl, bel.frame _, fun h => by cases h⟩

theorem closed : joinedFacts Try.checked.prog 9 Try.f9 Rows.collectTellsSpec Rows.collectTellsRow = true :=
  closed_of Try.prog 9 Try.f9 Rows.collectTellsSpec Rows.collectTellsRow (by as_aux_lemma => kernel_rfl) fact_laid fact_rowed (by as_aux_lemma => kernel_rfl) (by as_aux_lemma => kernel_rfl) (by as_aux_lemma => kernel_rfl) fact_stops (by as_aux_lemma => kernel_rfl) fact_knobs (by as_aux_lemma => kernel_rfl) (by as_aux_lemma => kernel_rfl) (by as_aux_lemma => kernel_rfl) (by as_aux_lemma => kernel_rfl) (by as_aux_lemma => kernel_rfl) (by as_aux_lemma => kernel_rfl) (by as_aux_lemma => kernel_rfl) (by as_aux_lemma => kernel_rfl) (by as_aux_lemma => kernel_rfl) (by as_aux_lemma => kernel_rfl) (by as_aux_lemma => kernel_rfl) (by as_aux_lemma => kernel_rfl) (by as_aux_lemma => kernel_rfl) (by rw [fact_plain]; rfl) (by as_aux_lemma => kernel_rfl) fact_heard fact_enter (by rw [fact_final]; rfl) (by rw [fact_make]; kernel_rfl) (by as_aux_lemma => kernel_rfl) (by as_aux_lemma => kernel_rfl) (by as_aux_lemma => kernel_rfl) (by as_aux_lemma => kernel_rfl)

theorem over : Rows.collectTellsRow.holds Try.pinned (OpenSpec.ofChange Rows.collectTellsSpec) :=
  OpenClaim.holds_of_wide 9 Try.f9 rfl rfl rfl rfl rfl rfl rfl ⟨rfl, rfl, rfl, rfl, rfl⟩ rfl rfl rfl rfl rfl (by kernel_rfl) Try.func9 closed
    (of_decide_eq_true (by kernel_rfl)) (by unfold Func.isWrapper; first | (rw [if_pos (by decide +kernel)]; kernel_rfl) | (rw [if_neg (by decide +kernel)]; exact ⟨rfl, rfl⟩))
    (fun os started H enc _ => lifted os started H enc)

/-- The statement. -/
theorem proved : Rows.CollectTellsSaid := over
end Go.Proofs.Ytlofjhcjjcohfaa.collectTellsDone
