/- The functions that Trace needs: a statement's own error. -/
import Derived.Test.YtaiaoiochbpmfaaGreatFp
namespace AM
open Go Go.Proofs Mk
set_option linter.unusedVariables false
set_option linter.unusedSimpArgs false
set_option maxRecDepth 20000
set_option maxHeartbeats 4000000
theorem want_th (n k : Nat) : wantF n (thName k) 7 7 = if atI (thNames n) (thName k) < 0 then 5 else 0 := by
  have h1 : atI loNames (thName k) = -1 := by obtain h | h | h | h := thName_eq k <;> (rw [h]; rfl)
  have h2 : atI dNames (thName k) = -1 := th_decl k
  have h3 : kindF n (thName k) = if 0 ≤ atI (thNames n) (thName k) then 7 else 0 := by
    unfold kindF
    rw [h1, h2]
    rfl
  unfold wantF
  rw [h3]
  split <;> split <;> first | rfl | omega | (simp_all; done) | (simp_all; omega)
attribute [local go_sem] lfR nest
def us129 : Nat → List (Nat × Nat) := fun i => if i = 1 then [(3, 7), (3, 8), (7, 8), (7, 9)] else if i = 8 then [(0, 3), (0, 5), (3, 5), (4, 5), (0, 8), (3, 8), (4, 8), (5, 8)] else if i = 9 then [(0, 3), (0, 5), (3, 5), (4, 5), (0, 8), (3, 8), (4, 8), (5, 8), (0, 9), (3, 9), (4, 9), (5, 9), (0, 10), (3, 10), (4, 10), (5, 10), (0, 12), (3, 12), (4, 12), (5, 12), (8, 12), (9, 12), (10, 12), (11, 12), (0, 15), (3, 15), (4, 15), (5, 15), (8, 15), (9, 15), (10, 15), (11, 15), (12, 15)] else if i = 28 then [(2, 4), (2, 6), (4, 6), (2, 7)] else if i = 37 then [(3, 5)] else if i = 39 then [(4, 6)] else if i = 45 then [(6, 8)] else if i = 47 then [(4, 6)] else if i = 49 then [(0, 3), (0, 5), (3, 5), (4, 5), (0, 8), (3, 8), (4, 8), (5, 8)] else []
abbrev OneC (bs : List (List Sm)) (t : Nat) (ar : List Sm) (sp st : List ByteArray) (s : Sm) : Prop :=
  ACall Tryz.prog 129 [.ptr 0 0, rw_ (smR s)] (wOs bs t ar sp st) (fun v g => v = .pv (intP (oneF bs.length t ar sp st s).1) ∧ g = wOg bs t ar (oneF bs.length t ar sp st s).2.1 (oneF bs.length t ar sp st s).2.2)
theorem one_ok (bs : List (List Sm)) (hb : bs.length ≤ 4) (t : Nat) (ht : t < bs.length) (ar : List Sm) (sp st : List ByteArray) (ha : ar.length ≤ 100) (hp : sp.length ≤ 100) (hq : st.length ≤ 100) (s : Sm) : OneC bs t ar sp st s := by
  have H := fun a b nm => inside_ok bs t ar sp st a b nm ha
  have W := fun s a b => want_ok bs hb t ht s a b
  have X := expr4_ok bs hb t ht
  have XL : ∀ l : Lf, FnEq Tryz.prog 154 [rw_ (pgR bs), .pv (intP t), rw_ (lfR l)] (.pv (intP 0)) := fun l => by
    have := X (.leaf l)
    cases l <;> exact this
  unfold OneC
  rw [smR_eq]
  rcases s with ⟨k, e⟩ | ⟨i, e⟩ | ⟨e, b, c⟩ | ⟨e, b⟩ | ⟨_ | _ | _ | _, b⟩ | b | b | ⟨_ | _ | _⟩ | k | _ | e | _
  all_goals
    simp only [Sm.op, Sm.name, Sm.arg, Sm.index, Sm.ex, Sm.body, Sm.els, exO, oneF, List.map_nil, List.map_cons]
    refine wz Tryz.func129 us129 (h := fun R hR => ?_)
    refine wb ?_ <;> intros
    refine wq (H 7 7 _) [0, 1, 2, 3] ?_
    rintro r g ⟨rfl, rfl⟩
    refine wb ?_ <;> intros
    refine wq (H 8 8 _) [0, 1, 2, 3] ?_
    rintro r g ⟨rfl, rfl⟩
    refine wb ?_ <;> intros
    refine wq (H 3 3 _) [0, 1, 2, 3] ?_
    rintro r g ⟨rfl, rfl⟩
  · refine wb ?_ <;> intros
    refine wE (W k.str 8 1) ?_
    rw [want_lo]
    refine wb ?_ <;> intros
    refine wE (X e) ?_
    refine wb ?_ <;> intros
    refine wE (or_ok 0 0) ?_
    refine wb ?_ <;> intros
    exact wo hR _ _ [0, 1, 2, 3, 1, 2, 3] [] ⟨rfl, rfl⟩
  · refine wb ?_ <;> intros
    refine wE (W ⟨#[113]⟩ 2 2) ?_
    rw [want_q]
    refine wb ?_ <;> intros
    refine row_get (by omega) rfl rfl ?_
    refine wb ?_ <;> intros
    refine wE (XL i) ?_
    refine wb ?_ <;> intros
    refine wE (X e) ?_
    refine wb ?_ <;> intros
    refine wE (or_ok 0 0) ?_
    refine wb ?_ <;> intros
    refine wE (or_ok 0 0) ?_
    refine wb ?_ <;> intros
    exact wo hR _ _ [0, 1, 2, 3, 1, 2, 3] [] ⟨rfl, rfl⟩
  iterate 2
    · refine wb ?_ <;> intros
      refine wE (X e) ?_
      refine wb ?_ <;> intros
      exact wo hR _ _ [0, 1, 2, 3, 1, 2, 3] [] ⟨rfl, rfl⟩
  · refine wb ?_ <;> intros
    refine wE (W ⟨#[109]⟩ 3 3) ?_
    rw [show wantF bs.length ⟨#[109]⟩ 3 3 = 0 from rfl]
    refine wb (A2.mk ?_ ?_) <;> intros
    iterate 6 all_goals first | ((first | refine wE (nesting_ok _) ?_ | refine wE (or_ok _ _) ?_ | (refine wq (H _ _ _) [0, 1, 2, 3] ?_; rintro r g ⟨rfl, rfl⟩)); refine wb ?_ <;> intros) | skip
    all_goals exact wo hR _ _ [0, 1, 2, 3, 1, 2, 3] [] ⟨rfl, rfl⟩
  · refine wb ?_ <;> intros
    refine wE (W ⟨#[110]⟩ 3 3) ?_
    rw [show wantF bs.length ⟨#[110]⟩ 3 3 = 0 from rfl]
    refine wb (A2.mk ?_ ?_) <;> intros
    iterate 6 all_goals first | ((first | refine wE (nesting_ok _) ?_ | refine wE (or_ok _ _) ?_ | (refine wq (H _ _ _) [0, 1, 2, 3] ?_; rintro r g ⟨rfl, rfl⟩)); refine wb ?_ <;> intros) | skip
    all_goals exact wo hR _ _ [0, 1, 2, 3, 1, 2, 3] [] ⟨rfl, rfl⟩
  · refine wb ?_ <;> intros
    refine wE (W ⟨#[114]⟩ 4 4) ?_
    rw [show wantF bs.length ⟨#[114]⟩ 4 4 = 0 from rfl]
    refine wb (A2.mk ?_ ?_) <;> intros
    iterate 6 all_goals first | ((first | refine wE (nesting_ok _) ?_ | refine wE (or_ok _ _) ?_ | (refine wq (H _ _ _) [0, 1, 2, 3] ?_; rintro r g ⟨rfl, rfl⟩)); refine wb ?_ <;> intros) | skip
    all_goals exact wo hR _ _ [0, 1, 2, 3, 1, 2, 3] [] ⟨rfl, rfl⟩
  · refine wb ?_ <;> intros
    refine wE (W ⟨#[114]⟩ 4 4) ?_
    rw [show wantF bs.length ⟨#[114]⟩ 4 4 = 0 from rfl]
    refine wb (A2.mk ?_ ?_) <;> intros
    iterate 6 all_goals first | ((first | refine wE (nesting_ok _) ?_ | refine wE (or_ok _ _) ?_ | (refine wq (H _ _ _) [0, 1, 2, 3] ?_; rintro r g ⟨rfl, rfl⟩)); refine wb ?_ <;> intros) | skip
    all_goals exact wo hR _ _ [0, 1, 2, 3, 1, 2, 3] [] ⟨rfl, rfl⟩
  · refine wb ?_ <;> intros
    iterate 6 all_goals first | ((first | refine wE (nesting_ok _) ?_ | refine wE (or_ok _ _) ?_ | (refine wq (H _ _ _) [0, 1, 2, 3] ?_; rintro r g ⟨rfl, rfl⟩)); refine wb ?_ <;> intros) | skip
    all_goals exact wo hR _ _ [0, 1, 2, 3, 1, 2, 3] [] ⟨rfl, rfl⟩
  · refine wb (A2.mk ?_ ?_) <;> intros
    iterate 6 all_goals first | ((first | refine wE (nesting_ok _) ?_ | refine wE (or_ok _ _) ?_ | (refine wq (H _ _ _) [0, 1, 2, 3] ?_; rintro r g ⟨rfl, rfl⟩)); refine wb ?_ <;> intros) | skip
    all_goals exact wo hR _ _ [0, 1, 2, 3, 1, 2, 3] [] ⟨rfl, rfl⟩
  · refine wb ?_ <;> intros
    refine wE (W ⟨#[99]⟩ 5 5) ?_
    rw [show wantF bs.length ⟨#[99]⟩ 5 5 = 0 from rfl]
    refine wb ?_ <;> intros
    refine wE (declAt_v dL ⟨#[99]⟩ 7 (by decide) rfl) ?_
    refine wb ?_ <;> intros
    refine row_get (by omega) rfl rfl ?_
    refine wb ?_ <;> intros
    refine wQ (H 4 4 ⟨#[109]⟩) [0, 1, 2, 3] ⟨rfl, rfl⟩ ?_
    rintro r g ⟨rfl, rfl⟩
    refine wb (A2.mk ?_ (A2.mk ?_ ?_)) <;> intros
    iterate 6 all_goals first | ((first | refine wE (nesting_ok _) ?_ | refine wE (or_ok _ _) ?_ | (refine wq (H _ _ _) [0, 1, 2, 3] ?_; rintro r g ⟨rfl, rfl⟩)); refine wb ?_ <;> intros) | skip
    all_goals exact wo hR _ _ [0, 1, 2, 3, 1, 2, 3] [] ⟨rfl, rfl⟩
  · refine wb ?_ <;> intros
    refine wE (W ⟨#[99]⟩ 5 5) ?_
    rw [show wantF bs.length ⟨#[99]⟩ 5 5 = 0 from rfl]
    refine wb ?_ <;> intros
    refine wE (declAt_v dL ⟨#[99]⟩ 7 (by decide) rfl) ?_
    refine wb ?_ <;> intros
    refine row_get (by omega) rfl rfl ?_
    refine wb ?_ <;> intros
    refine wQ (H 4 4 ⟨#[109]⟩) [0, 1, 2, 3] ⟨rfl, rfl⟩ ?_
    rintro r g ⟨rfl, rfl⟩
    refine wb (A2.mk ?_ (A2.mk ?_ ?_)) <;> intros
    iterate 6 all_goals first | ((first | refine wE (nesting_ok _) ?_ | refine wE (or_ok _ _) ?_ | (refine wq (H _ _ _) [0, 1, 2, 3] ?_; rintro r g ⟨rfl, rfl⟩)); refine wb ?_ <;> intros) | skip
    all_goals exact wo hR _ _ [0, 1, 2, 3, 1, 2, 3] [] ⟨rfl, rfl⟩
  · refine wb ?_ <;> intros
    refine wE (W ⟨#[99]⟩ 5 5) ?_
    rw [show wantF bs.length ⟨#[99]⟩ 5 5 = 0 from rfl]
    refine wb ?_ <;> intros
    refine wE (declAt_v dL ⟨#[99]⟩ 7 (by decide) rfl) ?_
    refine wb ?_ <;> intros
    refine row_get (by omega) rfl rfl ?_
    refine wb ?_ <;> intros
    refine wQ (H 4 4 ⟨#[109]⟩) [0, 1, 2, 3] ⟨rfl, rfl⟩ ?_
    rintro r g ⟨rfl, rfl⟩
    refine wb (A2.mk ?_ (A2.mk ?_ ?_)) <;> intros
    iterate 6 all_goals first | ((first | refine wE (nesting_ok _) ?_ | refine wE (or_ok _ _) ?_ | (refine wq (H _ _ _) [0, 1, 2, 3] ?_; rintro r g ⟨rfl, rfl⟩)); refine wb ?_ <;> intros) | skip
    all_goals exact wo hR _ _ [0, 1, 2, 3, 1, 2, 3] [] ⟨rfl, rfl⟩
  · refine wb ?_ <;> intros
    refine wE (W (thName k) 7 7) ?_
    rw [want_th]
    generalize hth : atI (thNames bs.length) (thName k) = a at hR ⊢
    by_cases ha0 : a < 0
    · rw [if_pos ha0] at hR ⊢
      refine wb ?_ <;> intros
      exact wo hR _ _ [0, 1, 2, 3, 1, 2, 3] [] ⟨rfl, rfl⟩
    rw [if_neg ha0] at hR ⊢
    refine wb ?_ <;> intros
    refine wE (threadAt_v bs.zipIdx (thName k) a (by simp; omega) (by rw [thNames_eq]; exact hth)) ?_
    refine wb (A2.mk ?_ (A2.mk ?_ (A2.mk ?_ (A2.mk ?_ (A2.mk ?_ ?_))))) <;> intros
    all_goals first | exact wo hR _ _ [0, 1, 2, 3, 1, 2, 3] [] ⟨rfl, rfl⟩ | skip
    refine wQ (atO_ok sp (thName k) (by omega)) [2] ⟨rfl, rfl⟩ ?_
    rintro r g ⟨rfl, rfl⟩
    generalize atI sp (thName k) = c at hR ⊢
    refine wb (A2.mk ?_ ?_) <;> intros
    · exact wo hR _ _ [0, 1, 2, 3, 1, 2, 3] [] ⟨rfl, rfl⟩
    exact wo hR _ _ [0, 1, 2, 3, 1, 756, 3] [] ⟨rfl, rfl⟩
  · refine wb ?_ <;> intros
    refine wE (W (thName 1) 7 7) ?_
    rw [want_th]
    generalize hth : atI (thNames bs.length) (thName 1) = a at hR ⊢
    refine wb (A2.mk ?_ (A2.mk ?_ ?_)) <;> intros
    all_goals first | (refine wE (threadAt_v bs.zipIdx (thName 1) a (by simp; omega) (by rw [thNames_eq]; exact hth)) ?_; refine wb ?_ <;> intros) | skip
    iterate 6 all_goals first | ((first | refine wE (nesting_ok _) ?_ | refine wE (or_ok _ _) ?_ | (refine wq (H _ _ _) [0, 1, 2, 3] ?_; rintro r g ⟨rfl, rfl⟩)); refine wb ?_ <;> intros) | skip
    all_goals exact wo hR _ _ [0, 1, 2, 3, 1, 2, 3] [] ⟨rfl, rfl⟩
  · refine wb ?_ <;> intros
    refine wE (W ⟨#[102]⟩ 6 6) ?_
    rw [show wantF bs.length ⟨#[102]⟩ 6 6 = 0 from rfl]
    generalize hc : atI st ⟨#[102]⟩ = c at hR
    refine wb (A2.mk ?_ ?_) <;> intros
    iterate 6 all_goals first | ((first | refine wE (nesting_ok _) ?_ | refine wE (or_ok _ _) ?_); (first | (refine wb ?_ <;> intros) | (refine wb (A2.mk ?_ ?_) <;> intros))) | skip
    all_goals first | (refine wQ (atO_ok st ⟨#[102]⟩ (by omega)) [3] ⟨rfl, rfl⟩ ?_; rintro r g ⟨rfl, rfl⟩; rw [hc]; refine wb (A2.mk ?_ ?_) <;> intros) | skip
    all_goals
      refine wE (X e) ?_
      refine wb ?_ <;> intros
      refine wE (or_ok _ _) ?_
      refine wb ?_ <;> intros
    all_goals first | exact wo hR _ _ [0, 1, 2, 3, 1, 2, 676] [] ⟨rfl, rfl⟩ | exact wo hR _ _ [0, 1, 2, 3, 1, 2, 684] [] ⟨rfl, rfl⟩
  · refine wb ?_ <;> intros
    refine wE (W ⟨#[97]⟩ 8 8) ?_
    rw [show wantF bs.length ⟨#[97]⟩ 8 8 = 0 from rfl]
    refine wb ?_ <;> intros
    refine wE (W ⟨#[102]⟩ 6 6) ?_
    rw [show wantF bs.length ⟨#[102]⟩ 6 6 = 0 from rfl]
    refine wb ?_ <;> intros
    iterate 6 all_goals first | ((first | refine wE (nesting_ok _) ?_ | refine wE (or_ok _ _) ?_ | (refine wq (H _ _ _) [0, 1, 2, 3] ?_; rintro r g ⟨rfl, rfl⟩)); refine wb ?_ <;> intros) | skip
    all_goals exact wo hR _ _ [0, 1, 2, 3, 1, 2, 3] [] ⟨rfl, rfl⟩
end AM
