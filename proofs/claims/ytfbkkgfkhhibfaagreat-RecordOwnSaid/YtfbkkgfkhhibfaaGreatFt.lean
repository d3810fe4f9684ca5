/- The functions that Trace needs: a statement's own error. -/
import Derived.Test.YtfbkkgfkhhibfaaGreatFp
import Derived.Test.YtfbkkgfkhhibfaaGreatTg
import Derived.Test.YtfbkkgfkhhibfaaGreatFh
namespace AM
open Go Go.Proofs Mk
set_option linter.unusedVariables false
set_option linter.unusedSimpArgs false
set_option maxRecDepth 20000
set_option maxHeartbeats 4000000
theorem want_th (n k : Nat) : wantF n (thName k) 7 7 = if atI (thNames n) (thName k) < 0 then 5 else 0 := by
  have h1 : atI loNames (thName k) = -1 := by obtain h | h | h | h := thName_eq k <;> (rw [h]; rfl)
  have h2 : atI dNames (thName k) = -1 := th_decl k
  have h3 : kindF n (thName k) = if 0 ≤ atI (thNames n) (thName k) then 7 else 0 := by
    unfold kindF
    rw [h1, h2]
    rfl
  unfold wantF
  rw [h3]
  split <;> split <;> first | rfl | omega | (simp_all; done) | (simp_all; omega)
attribute [local go_sem] lfR nest
def us129 : Nat → List (Nat × Nat) := fun i => if i = 1 then [(3, 7), (3, 8), (7, 8), (7, 9)] else if i = 8 then [(0, 3), (0, 5), (3, 5), (4, 5), (0, 8), (3, 8), (4, 8), (5, 8)] else if i = 9 then [(0, 3), (0, 5), (3, 5), (4, 5), (0, 8), (3, 8), (4, 8), (5, 8), (0, 9), (3, 9), (4, 9), (5, 9), (0, 10), (3, 10), (4, 10), (5, 10), (0, 12), (3, 12), (4, 12), (5, 12), (8, 12), (9, 12), (10, 12), (11, 12), (0, 15), (3, 15), (4, 15), (5, 15), (8, 15), (9, 15), (10, 15), (11, 15), (12, 15)] else if i = 28 then [(2, 4), (2, 6), (4, 6), (2, 7)] else if i = 37 then [(3, 5)] else if i = 39 then [(4, 6)] else if i = 45 then [(6, 8)] else if i = 47 then [(4, 6)] else if i = 49 then [(0, 3), (0, 5), (3, 5), (4, 5), (0, 8), (3, 8), (4, 8), (5, 8)] else []
abbrev OneC (bs : List (List Sm)) (t : Nat) (ar : List Sm) (sp st : List ByteArray) (s : Sm) : Prop :=
  ACall Tryz.prog 142 [.ptr 0 0, rw_ (smR s)] (wOs bs t ar sp st) (fun v g => v = .pv (intP (oneF bs.length t ar sp st s).1) ∧ g = wOg bs t ar (oneF bs.length t ar sp st s).2.1 (oneF bs.length t ar sp st s).2.2)
theorem one_ok (bs : List (List Sm)) (hb : bs.length ≤ 4) (t : Nat) (ht : t < bs.length) (ar : List Sm) (sp st : List ByteArray) (ha : ar.length ≤ 100) (hp : sp.length ≤ 100) (hq : st.length ≤ 100) (s : Sm) : OneC bs t ar sp st s := by
  have H := fun a b nm => inside_ok bs t ar sp st a b nm ha
  have W := fun s a b => want_ok bs hb t ht s a b
  have X := expr4_ok bs hb t ht
  have XL : ∀ l : Lf, FnEq Tryz.prog 170 [rw_ (pgR bs), .pv (intP t), rw_ (lfR l)] (.pv (intP 0)) := fun l => by
    have := X (.leaf l)
    cases l <;> exact this
  unfold OneC
  rw [smR_eq]
  rcases s with ⟨k, e⟩ | ⟨i, e⟩ | ⟨e, b, c⟩ | ⟨e, b⟩ | ⟨_ | _ | _ | _, b⟩ | b | b | ⟨_ | _ | _⟩ | k | _ | e | _
  all_goals
    simp only [Sm.op, Sm.name, Sm.arg, Sm.index, Sm.ex, Sm.body, Sm.els, exO, oneF, List.map_nil, List.map_cons]
    refine wz Tryz.func142 us129 (h := fun R hR => ?_)
    refine wb ?_ <;> intros
    refine wq (H 7 7 _) [0, 1, 2, 3] ?_
    rintro r g ⟨rfl, rfl⟩
    refine wb ?_ <;> intros
    refine wq (H 8 8 _) [0, 1, 2, 3] ?_
    rintro r g ⟨rfl, rfl⟩
    refine wb ?_ <;> intros
    refine wq (H 3 3 _) [0, 1, 2, 3] ?_
    rintro r g ⟨rfl, rfl⟩
  · refine wb ?_ <;> intros
    refine wE (W k.str 8 1) ?_
    rw [want_lo]
    refine wb ?_ <;> intros
    refine wE (X e) ?_
    refine wb ?_ <;> intros
    refine wE (or_ok 0 0) ?_
    refine wb ?_ <;> intros
    exact wo hR _ _ [0, 1, 2, 3, 1, 2, 3] [] ⟨rfl, rfl⟩
  · refine wb ?_ <;> intros
    refine wE (W ⟨#[113]⟩ 2 2) ?_
    rw [want_q]
    refine wb ?_ <;> intros
    refine row_get (by omega) rfl rfl ?_
    refine wb ?_ <;> intros
    refine wE (XL i) ?_
    refine wb ?_ <;> intros
    refine wE (X e) ?_
    refine wb ?_ <;> intros
    refine wE (or_ok 0 0) ?_
    refine wb ?_ <;> intros
    refine wE (or_ok 0 0) ?_
    refine wb ?_ <;> intros
    exact wo hR _ _ [0, 1, 2, 3, 1, 2, 3] [] ⟨rfl, rfl⟩
  iterate 2
    · refine wb ?_ <;> intros
      refine wE (X e) ?_
      refine wb ?_ <;> intros
      exact wo hR _ _ [0, 1, 2, 3, 1, 2, 3] [] ⟨rfl, rfl⟩
  · refine wb ?_ <;> intros
    refine wE (W ⟨#[109]⟩ 3 3) ?_
    rw [show wantF bs.length ⟨#[109]⟩ 3 3 = 0 from rfl]
    refine wb (A2.mk ?_ ?_) <;> intros
    iterate 6 all_goals first | ((first | refine wE (nesting_ok _) ?_ | refine wE (or_ok _ _) ?_ | (refine wq (H _ _ _) [0, 1, 2, 3] ?_; rintro r g ⟨rfl, rfl⟩)); refine wb ?_ <;> intros) | skip
    all_goals exact wo hR _ _ [0, 1, 2, 3, 1, 2, 3] [] ⟨rfl, rfl⟩
  · refine wb ?_ <;> intros
    refine wE (W ⟨#[110]⟩ 3 3) ?_
    rw [show wantF bs.length ⟨#[110]⟩ 3 3 = 0 from rfl]
    refine wb (A2.mk ?_ ?_) <;> intros
    iterate 6 all_goals first | ((first | refine wE (nesting_ok _) ?_ | refine wE (or_ok _ _) ?_ | (refine wq (H _ _ _) [0, 1, 2, 3] ?_; rintro r g ⟨rfl, rfl⟩)); refine wb ?_ <;> intros) | skip
    all_goals exact wo hR _ _ [0, 1, 2, 3, 1, 2, 3] [] ⟨rfl, rfl⟩
  · refine wb ?_ <;> intros
    refine wE (W ⟨#[114]⟩ 4 4) ?_
    rw [show wantF bs.length ⟨#[114]⟩ 4 4 = 0 from rfl]
    refine wb (A2.mk ?_ ?_) <;> intros
    iterate 6 all_goals first | ((first | refine wE (nesting_ok _) ?_ | refine wE (or_ok _ _) ?_ | (refine wq (H _ _ _) [0, 1, 2, 3] ?_; rintro r g ⟨rfl, rfl⟩)); refine wb ?_ <;> intros) | skip
    all_goals exact wo hR _ _ [0, 1, 2, 3, 1, 2, 3] [] ⟨rfl, rfl⟩
  · refine wb ?_ <;> intros
    refine wE (W ⟨#[114]⟩ 4 4) ?_
    rw [show wantF bs.length ⟨#[114]⟩ 4 4 = 0 from rfl]
    refine wb (A2.mk ?_ ?_) <;> intros
    iterate 6 all_goals first | ((first | refine wE (nesting_ok _) ?_ | refine wE (or_ok _ _) ?_ | (refine wq (H _ _ _) [0, 1, 2, 3] ?_; rintro r g ⟨rfl, rfl⟩)); refine wb ?_ <;> intros) | skip
    all_goals exact wo hR _ _ [0, 1, 2, 3, 1, 2, 3] [] ⟨rfl, rfl⟩
  · refine wb ?_ <;> intros
    iterate 6 all_goals first | ((first | refine wE (nesting_ok _) ?_ | refine wE (or_ok _ _) ?_ | (refine wq (H _ _ _) [0, 1, 2, 3] ?_; rintro r g ⟨rfl, rfl⟩)); refine wb ?_ <;> intros) | skip
    all_goals exact wo hR _ _ [0, 1, 2, 3, 1, 2, 3] [] ⟨rfl, rfl⟩
  · refine wb (A2.mk ?_ ?_) <;> intros
    iterate 6 all_goals first | ((first | refine wE (nesting_ok _) ?_ | refine wE (or_ok _ _) ?_ | (refine wq (H _ _ _) [0, 1, 2, 3] ?_; rintro r g ⟨rfl, rfl⟩)); refine wb ?_ <;> intros) | skip
    all_goals exact wo hR _ _ [0, 1, 2, 3, 1, 2, 3] [] ⟨rfl, rfl⟩
  · refine wb ?_ <;> intros
    refine wE (W ⟨#[99]⟩ 5 5) ?_
    rw [show wantF bs.length ⟨#[99]⟩ 5 5 = 0 from rfl]
    refine wb ?_ <;> intros
    refine wE (declAt_v dL ⟨#[99]⟩ 7 (by decide) rfl) ?_
    refine wb ?_ <;> intros
    refine row_get (by omega) rfl rfl ?_
    refine wb ?_ <;> intros
    refine wQ (H 4 4 ⟨#[109]⟩) [0, 1, 2, 3] ⟨rfl, rfl⟩ ?_
    rintro r g ⟨rfl, rfl⟩
    refine wb (A2.mk ?_ (A2.mk ?_ ?_)) <;> intros
    iterate 6 all_goals first | ((first | refine wE (nesting_ok _) ?_ | refine wE (or_ok _ _) ?_ | (refine wq (H _ _ _) [0, 1, 2, 3] ?_; rintro r g ⟨rfl, rfl⟩)); refine wb ?_ <;> intros) | skip
    all_goals exact wo hR _ _ [0, 1, 2, 3, 1, 2, 3] [] ⟨rfl, rfl⟩
  · refine wb ?_ <;> intros
    refine wE (W ⟨#[99]⟩ 5 5) ?_
    rw [show wantF bs.length ⟨#[99]⟩ 5 5 = 0 from rfl]
    refine wb ?_ <;> intros
    refine wE (declAt_v dL ⟨#[99]⟩ 7 (by decide) rfl) ?_
    refine wb ?_ <;> intros
    refine row_get (by omega) rfl rfl ?_
    refine wb ?_ <;> intros
    refine wQ (H 4 4 ⟨#[109]⟩) [0, 1, 2, 3] ⟨rfl, rfl⟩ ?_
    rintro r g ⟨rfl, rfl⟩
    refine wb (A2.mk ?_ (A2.mk ?_ ?_)) <;> intros
    iterate 6 all_goals first | ((first | refine wE (nesting_ok _) ?_ | refine wE (or_ok _ _) ?_ | (refine wq (H _ _ _) [0, 1, 2, 3] ?_; rintro r g ⟨rfl, rfl⟩)); refine wb ?_ <;> intros) | skip
    all_goals exact wo hR _ _ [0, 1, 2, 3, 1, 2, 3] [] ⟨rfl, rfl⟩
  · refine wb ?_ <;> intros
    refine wE (W ⟨#[99]⟩ 5 5) ?_
    rw [show wantF bs.length ⟨#[99]⟩ 5 5 = 0 from rfl]
    refine wb ?_ <;> intros
    refine wE (declAt_v dL ⟨#[99]⟩ 7 (by decide) rfl) ?_
    refine wb ?_ <;> intros
    refine row_get (by omega) rfl rfl ?_
    refine wb ?_ <;> intros
    refine wQ (H 4 4 ⟨#[109]⟩) [0, 1, 2, 3] ⟨rfl, rfl⟩ ?_
    rintro r g ⟨rfl, rfl⟩
    refine wb (A2.mk ?_ (A2.mk ?_ ?_)) <;> intros
    iterate 6 all_goals first | ((first | refine wE (nesting_ok _) ?_ | refine wE (or_ok _ _) ?_ | (refine wq (H _ _ _) [0, 1, 2, 3] ?_; rintro r g ⟨rfl, rfl⟩)); refine wb ?_ <;> intros) | skip
    all_goals exact wo hR _ _ [0, 1, 2, 3, 1, 2, 3] [] ⟨rfl, rfl⟩
  · refine wb ?_ <;> intros
    refine wE (W (thName k) 7 7) ?_
    rw [want_th]
    generalize hth : atI (thNames bs.length) (thName k) = a at hR ⊢
    by_cases ha0 : a < 0
    · rw [if_pos ha0] at hR ⊢
      refine wb ?_ <;> intros
      exact wo hR _ _ [0, 1, 2, 3, 1, 2, 3] [] ⟨rfl, rfl⟩
    rw [if_neg ha0] at hR ⊢
    refine wb ?_ <;> intros
    refine wE (threadAt_v bs.zipIdx (thName k) a (by simp; omega) (by rw [thNames_eq]; exact hth)) ?_
    refine wb (A2.mk ?_ (A2.mk ?_ (A2.mk ?_ (A2.mk ?_ (A2.mk ?_ ?_))))) <;> intros
    all_goals first | exact wo hR _ _ [0, 1, 2, 3, 1, 2, 3] [] ⟨rfl, rfl⟩ | skip
    refine wQ (atO_ok sp (thName k) (by omega)) [2] ⟨rfl, rfl⟩ ?_
    rintro r g ⟨rfl, rfl⟩
    generalize atI sp (thName k) = c at hR ⊢
    refine wb (A2.mk ?_ ?_) <;> intros
    · exact wo hR _ _ [0, 1, 2, 3, 1, 2, 3] [] ⟨rfl, rfl⟩
    exact wo hR _ _ [0, 1, 2, 3, 1, 756, 3] [] ⟨rfl, rfl⟩
  · refine wb ?_ <;> intros
    refine wE (W (thName 1) 7 7) ?_
    rw [want_th]
    generalize hth : atI (thNames bs.length) (thName 1) = a at hR ⊢
    refine wb (A2.mk ?_ (A2.mk ?_ ?_)) <;> intros
    all_goals first | (refine wE (threadAt_v bs.zipIdx (thName 1) a (by simp; omega) (by rw [thNames_eq]; exact hth)) ?_; refine wb ?_ <;> intros) | skip
    iterate 6 all_goals first | ((first | refine wE (nesting_ok _) ?_ | refine wE (or_ok _ _) ?_ | (refine wq (H _ _ _) [0, 1, 2, 3] ?_; rintro r g ⟨rfl, rfl⟩)); refine wb ?_ <;> intros) | skip
    all_goals exact wo hR _ _ [0, 1, 2, 3, 1, 2, 3] [] ⟨rfl, rfl⟩
  · refine wb ?_ <;> intros
    refine wE (W ⟨#[102]⟩ 6 6) ?_
    rw [show wantF bs.length ⟨#[102]⟩ 6 6 = 0 from rfl]
    generalize hc : atI st ⟨#[102]⟩ = c at hR
    refine wb (A2.mk ?_ ?_) <;> intros
    iterate 6 all_goals first | ((first | refine wE (nesting_ok _) ?_ | refine wE (or_ok _ _) ?_); (first | (refine wb ?_ <;> intros) | (refine wb (A2.mk ?_ ?_) <;> intros))) | skip
    all_goals first | (refine wQ (atO_ok st ⟨#[102]⟩ (by omega)) [3] ⟨rfl, rfl⟩ ?_; rintro r g ⟨rfl, rfl⟩; rw [hc]; refine wb (A2.mk ?_ ?_) <;> intros) | skip
    all_goals
      refine wE (X e) ?_
      refine wb ?_ <;> intros
      refine wE (or_ok _ _) ?_
      refine wb ?_ <;> intros
    all_goals first | exact wo hR _ _ [0, 1, 2, 3, 1, 2, 676] [] ⟨rfl, rfl⟩ | exact wo hR _ _ [0, 1, 2, 3, 1, 2, 684] [] ⟨rfl, rfl⟩
  · refine wb ?_ <;> intros
    refine wE (W ⟨#[97]⟩ 8 8) ?_
    rw [show wantF bs.length ⟨#[97]⟩ 8 8 = 0 from rfl]
    refine wb ?_ <;> intros
    refine wE (W ⟨#[102]⟩ 6 6) ?_
    rw [show wantF bs.length ⟨#[102]⟩ 6 6 = 0 from rfl]
    refine wb ?_ <;> intros
    iterate 6 all_goals first | ((first | refine wE (nesting_ok _) ?_ | refine wE (or_ok _ _) ?_ | (refine wq (H _ _ _) [0, 1, 2, 3] ?_; rintro r g ⟨rfl, rfl⟩)); refine wb ?_ <;> intros) | skip
    all_goals exact wo hR _ _ [0, 1, 2, 3, 1, 2, 3] [] ⟨rfl, rfl⟩
end AM

/- The functions that Trace needs: the first error of statements. -/
namespace AM
open Go Go.Proofs Mk
set_option linter.unusedVariables false
set_option linter.unusedSimpArgs false
set_option maxRecDepth 20000
set_option maxHeartbeats 4000000
def us104 : Nat → List (Nat × Nat) := fun i => if i = 10 then [(3, 4), (8, 12), (9, 12)] else if i = 14 then [(4, 8)] else []
def AllC (bs : List (List Sm)) (t : Nat) (l : List Sm) : Prop := ∀ (ar : List Sm) (sp st : List ByteArray), ar.length ≤ 10 → sp.length + cntL l ≤ 99 → st.length + cntL l ≤ 99 →
  ACall Tryz.prog 106 [.ptr 0 0, .pv (smL l)] (wOs bs t ar sp st) (fun v g => v = .tup [.pv (intP (allL bs.length t ar sp st l).1), .pv (intP 0)] ∧ g = wOg bs t ar (allL bs.length t ar sp st l).2.1 (allL bs.length t ar sp st l).2.2)
theorem cntL_drop : ∀ (l : List Sm) (i : Nat), cntL (l.drop i) ≤ cntL l
  | [], i => by simp
  | s :: r, 0 => Nat.le_refl _
  | s :: r, i + 1 => by
    have := cntL_drop r i
    simp only [List.drop_succ_cons, cntL]
    omega
theorem one_ok' (bs : List (List Sm)) (hb : bs.length ≤ 4) (t : Nat) (ht : t < bs.length) (ar : List Sm) (sp st : List ByteArray) (ha : ar.length ≤ 100) (hp : sp.length ≤ 100) (hq : st.length ≤ 100) (s : Sm) (e : Int) (sp' st' : List ByteArray) (h : oneF bs.length t ar sp st s = (e, sp', st')) :
    ACall Tryz.prog 142 [.ptr 0 0, rw_ (stR s.op s.name s.arg (s.index.map lfR) (exO s.ex) (s.body.map smR) (s.els.map smR))] (wOs bs t ar sp st) (fun v g => v = .pv (intP e) ∧ g = wOg bs t ar sp' st') := by
  have := one_ok bs hb t ht ar sp st ha hp hq s
  unfold OneC at this
  rwa [h, smR_eq] at this
@[go_sem] theorem stR_len {op : Int} {name arg : ByteArray} {ix : List (List PV)} {e : ER} {b c : List (List PV)} : (stR op name arg ix e b c).length = 11 := rfl
theorem mod_last {β : Type} {z : β} {f : β → β} : ∀ (l : List β), (l ++ [z]).modify l.length f = l ++ [f z]
  | [] => rfl
  | a :: r => by
    have := mod_last (z := z) (f := f) r
    simp only [List.cons_append, List.length_cons, List.modify_succ_cons, this]
theorem mod_map {α β : Type} {l : List α} {g : α → β} {z : β} {f : β → β} : (l.map g ++ [z]).modify l.length f = l.map g ++ [f z] := by
  have h := mod_last (z := z) (f := f) (l.map g)
  rwa [List.length_map] at h
theorem take_mapL {α β : Type} {l : List α} {g : α → β} {r : List β} : List.take l.length (l.map g ++ r) = l.map g := by
  rw [show l.length = (l.map g).length by simp, List.take_left']
  rfl
theorem np1 {d : Nat} : ((d + 1 : Nat) : Int) - 1 = (d : Int) := by omega
attribute [local go_sem] smR_eq mod_map take_mapL np1
theorem all_ok (bs : List (List Sm)) (hb : bs.length ≤ 4) (t : Nat) (ht : t < bs.length) : ∀ (m : Nat) (l : List Sm), cntL l < m → AllC bs t l := by
  intro m
  induction m with
  | zero => intro l hl; omega
  | succ m ih =>
    intro l hl ar sp st ha hp hq
    refine wz Tryz.func106 us104 (h := fun R hR => ?_)
    refine wb ?_ <;> intros
    refine wl (fun u : Nat × List ByteArray × List ByteArray => [(0, .ptr 0 0), (1, .pv (smL l)), (6, .pv (intP u.1))]) (fun u => wOg bs t ar u.2.1 u.2.2) (fun u => u.1 ≤ l.length ∧ allL bs.length t ar sp st l = allL bs.length t ar u.2.1 u.2.2 (l.drop u.1) ∧ u.2.1.length + cntL (l.drop u.1) ≤ 99 ∧ u.2.2.length + cntL (l.drop u.1) ≤ 99) (fun u => l.length - u.1) (0, sp, st) ⟨Nat.zero_le _, rfl, hp, hq⟩ (vm [0, 1, 2, 3, 1, 2, 3]) (fun ⟨i, sp1, st1⟩ ⟨hi, hd, hp1, hq1⟩ => ?_)
    dsimp only at hi hd hp1 hq1
    refine wb (A2.mk ?_ ?_) <;> intros
    · have h2 : i < l.length := by omega
      have hcd := cntL_drop l i
      have hll := cntL_eq l
      rw [List.drop_eq_getElem_cons h2] at hd hp1 hq1 hcd
      generalize hx : l[i] = x at hd hp1 hq1 hcd
      simp only [allL, cntL, cntS_eq] at hd hp1 hq1 hcd
      have hlen := oneF_len bs.length t ar sp1 st1 x
      have hS := allS_eq bs.length t ar sp1 st1 x
      unfold errF at hS
      generalize ho : oneF bs.length t ar sp1 st1 x = r1 at hlen hS
      obtain ⟨e1, sp2, st2⟩ := r1
      dsimp only at hlen hS
      refine row_map (x := x) (by omega) (by simp [h2, hx]) (smR_len _) ?_
      rw [smR_eq]
      refine wb ?_ <;> intros
      refine wq (one_ok' bs hb t ht ar sp1 st1 (by omega) (by omega) (by omega) x e1 sp2 st2 ho) [0, 4, 5, 6] ?_
      rintro r g ⟨rfl, rfl⟩
      refine wb (A2.mk ?_ (A2.mk ?_ ?_)) <;> intros
      · have hz : allL bs.length t ar sp st l = (2, sp2, st2) := by
          rw [if_pos (show 6 < ar.length + 1 by omega), if_pos (show (2 : Int) ≠ 0 by decide)] at hS
          rw [hd, hS, if_pos (show (2 : Int) ≠ 0 by decide)]
        rw [hz] at hR
        exact wo hR _ _ [0, 1, 2, 3, 103, 104, 105] [] ⟨rfl, rfl⟩
      · have hz : allL bs.length t ar sp st l = (e1, sp2, st2) := by
          rw [if_neg (show ¬ 6 < ar.length + 1 by omega), if_pos ‹_›] at hS
          rw [hd, hS, if_pos ‹_›]
        rw [hz] at hR
        exact wo hR _ _ [0, 1, 2, 3, 103, 104, 105] [] ⟨rfl, rfl⟩
      · rw [if_neg (show ¬ 6 < ar.length + 1 by omega), if_neg (show ¬ e1 ≠ 0 by omega)] at hS
        have hl2 := allL_len bs.length t (cntL x.body) x.body (Nat.le_refl _) (ar ++ [x]) sp2 st2
        generalize hB : allL bs.length t (ar ++ [x]) sp2 st2 x.body = rb at hS hl2
        obtain ⟨e2, sp3, st3⟩ := rb
        dsimp only at hS hl2
        refine wq (ih x.body (by omega) (ar ++ [x]) sp2 st2 (by simp; omega) (by omega) (by omega)) [0, 247, 104, 105] ?_
        rintro r g ⟨rfl, rfl⟩
        rw [hB]
        refine wb (A2.mk ?_ ?_) <;> intros
        · rw [if_neg (show ¬ e2 ≠ 0 by omega)] at hS
          have hl3 := allL_len bs.length t (cntL x.els) x.els (Nat.le_refl _) (ar ++ [x]) sp3 st3
          generalize hC : allL bs.length t (ar ++ [x]) sp3 st3 x.els = rc at hS hl3
          obtain ⟨e3, sp4, st4⟩ := rc
          dsimp only at hS hl3
          rw [hS] at hd
          dsimp only at hd
          refine wq (ih x.els (by omega) (ar ++ [x]) sp3 st3 (by simp; omega) (by omega) (by omega)) [0, 319, 320, 321] ?_
          rintro r g ⟨rfl, rfl⟩
          rw [hC]
          refine wb (A2.mk ?_ ?_) <;> intros
          · rw [if_pos ‹_›] at hd
            rw [hd] at hR
            exact wo hR _ _ [0, 1, 2, 3, 543, 408, 409] [] ⟨rfl, rfl⟩
          · rw [if_neg (show ¬ e3 ≠ 0 by omega)] at hd
            refine sr_mark ⟨(i + 1, sp4, st4), ⟨h2, hd, by dsimp only; omega, by dsimp only; omega⟩, by dsimp only; omega, vm [0, 1, 2, 3, 543, 408, 409]⟩
        · rw [if_pos ‹_›] at hS
          rw [hS, if_pos (show e2 ≠ 0 by omega)] at hd
          rw [hd] at hR
          exact wo hR _ _ [0, 1, 2, 3, 471, 320, 321] [] ⟨rfl, rfl⟩
    · have hz : allL bs.length t ar sp st l = (0, sp1, st1) := by
        rw [hd, List.drop_eq_nil_of_le (by omega)]
        rfl
      rw [hz] at hR
      exact wo hR _ _ [0, 1, 2, 3, 4, 5, 6] [] ⟨rfl, rfl⟩
end AM

/- The functions that Trace needs: the check of a program. -/
namespace AM
open Go Go.Proofs Mk
set_option linter.unusedVariables false
set_option linter.unusedSimpArgs false
set_option maxRecDepth 20000
set_option maxHeartbeats 4000000
theorem cntP_take : ∀ (bs : List (List Sm)) (i : Nat) (h : i < bs.length), cntP (bs.take (i + 1)) = cntP (bs.take i) + cntL bs[i]
  | b :: r, 0, _ => by simp [cntP]
  | b :: r, i + 1, h => by
    have := cntP_take r i (by simpa using h)
    simp only [List.take_succ_cons, cntP, List.getElem_cons_succ, this]
    omega
theorem cntP_le : ∀ (bs : List (List Sm)) (i : Nat), cntP (bs.take i) ≤ cntP bs
  | [], i => by simp
  | b :: r, 0 => by simp [cntP]
  | b :: r, i + 1 => by
    have := cntP_le r i
    simp only [List.take_succ_cons, cntP]
    omega
attribute [local go_sem] List.set_cons_zero List.set_cons_succ
theorem program4_ok (bs : List (List Sm)) (h0 : 0 < bs.length) (hb : bs.length ≤ 4) (hs : ∀ b ∈ bs, ShL b) (hc : cntP bs ≤ 100000) : FnEq Tryz.prog 68 [rw_ (pgR bs)] (.tup [.pv (intP (progF bs)), .pv (intP 0)]) := by
  refine wf Tryz.func68 (fun _ => []) (h := fun R hR => ?_)
  refine wb ?_ <;> intros
  refine wE (shaped_ok bs h0 hb hs) ?_
  refine wb ?_ <;> intros
  refine wE decls4_ok ?_
  refine wb ?_ <;> intros
  refine wE (threads4_ok bs hb) ?_
  refine wb ?_ <;> intros
  refine wl (fun i : Nat => [(1, .ptr 0 0), (8, .pv (intP (cntP (bs.take i)))), (9, .pv (intP i))]) (fun _ => [some (.box ((pgR bs).map .pv))]) (fun i => i ≤ bs.length) (fun i => bs.length - i) 0 (Nat.zero_le _) (vm [0]) (fun i hi => ?_)
  have hle := cntP_le bs i
  refine wb (A2.mk ?_ (A2.mk ?_ ?_)) <;> intros
  · have h2 : i < bs.length := by omega
    have ht := cntP_take bs i h2
    have hle2 := cntP_le bs (i + 1)
    refine row_map (x := (bs[i], i)) (by omega) (by simp <;> omega) rfl ?_
    refine wb ?_ <;> intros
    refine wE (count_ok (cntL bs[i]) bs[i] (Nat.le_refl _) (by omega)) ?_
    refine wb ?_ <;> intros
    exact sr_mark ⟨i + 1, by omega, by omega, vm [0]⟩
  · rw [List.take_of_length_le (by omega)] at *
    have hz : progF bs = 2 := by unfold progF; rw [if_pos (by omega)]
    rw [hz] at hR
    exact wr hR
  have hz : progF bs = allP bs.length 0 [] [] bs := by
    unfold progF
    rw [if_neg]
    rw [List.take_of_length_le (by omega)] at *
    omega
  rw [hz] at hR
  have hc60 : cntP bs ≤ 60 := by
    rw [List.take_of_length_le (by omega)] at *
    omega
  clear hz hle
  refine sr_ghost 73 3 196 11 rfl rfl ?_
  refine sr_ghost 73 4 9 1 rfl rfl ?_
  refine sr_ghost 73 5 9 1 rfl rfl ?_
  refine wl (fun u : Nat × Nat × List ByteArray × List ByteArray => [(1, .ptr 0 0), (10, .ptr 1 0), (11, .pv (intP u.1))]) (fun u => [some (.box ((pgR bs).map .pv)), some (wbox bs u.2.1 2 3 4 [] u.2.2.1 u.2.2.2), some (smO []), some (rowS u.2.2.1), some (rowS u.2.2.2)]) (fun u => u.1 ≤ bs.length ∧ allP bs.length 0 [] [] bs = allP bs.length u.1 u.2.2.1 u.2.2.2 (bs.drop u.1) ∧ u.2.2.1.length + cntP (bs.drop u.1) ≤ 99 ∧ u.2.2.2.length + cntP (bs.drop u.1) ≤ 99) (fun u => bs.length - u.1) (0, 0, [], []) ⟨Nat.zero_le _, rfl, by simp; omega, by simp; omega⟩ (vm [0, 73, 97, 98, 99]) (fun ⟨i, t, sp, st⟩ ⟨hi, hd, hp, hq⟩ => ?_)
  dsimp only at hi hd hp hq
  refine wb (A2.mk ?_ ?_) <;> intros
  · have h2 : i < bs.length := by omega
    rw [List.drop_eq_getElem_cons h2] at hd hp hq
    generalize hx : bs[i] = b at hd hp hq
    simp only [allP, cntP] at hd hp hq
    have hlen := allL_len bs.length i (cntL b) b (Nat.le_refl _) [] sp st
    generalize ha : allL bs.length i [] sp st b = ra at hd hlen
    obtain ⟨e, sp', st'⟩ := ra
    dsimp only at hd hlen
    refine row_map (x := (b, i)) (by omega) (by simp [h2, hx]) rfl ?_
    refine wb ?_ <;> intros
    refine wq (all_ok bs hb i h2 (cntL b + 1) b (by omega) [] sp st (by simp) (by omega) (by omega)) [1, 2, 3, 4] ?_
    rintro r g ⟨rfl, rfl⟩
    rw [ha]
    refine wb (A2.mk ?_ ?_) <;> intros
    · rw [if_pos ‹_›] at hd
      rw [hd] at hR
      exact wr hR
    · rw [if_neg (by simpa using ‹e = 0›)] at hd
      refine sr_mark ⟨(i + 1, i, sp', st'), ⟨h2, hd, by dsimp only; omega, by dsimp only; omega⟩, by dsimp only; omega, vm [0, 1, 141, 142, 143]⟩
  · rw [hd, List.drop_eq_nil_of_le (by omega)] at hR
    exact wr hR
end AM

/- The functions that Trace needs: a program that is made. -/
namespace AM
open Go Go.Proofs Mk
set_option linter.unusedVariables false
set_option linter.unusedSimpArgs false
set_option maxRecDepth 20000
set_option maxHeartbeats 4000000
theorem wa {P Q : Prop} (h : Q) (s : Hd Q → P := by (intro h; (try simp -implicitDefEqProofs (disch := omega) only [go_sem, IntWalk.i64_in, IntWalk.u8_in, ↓reduceIte, repl, Nat.reducePow, Nat.reduceLT, Nat.reduceEqDiff, Nat.reduceAdd, Nat.reduceMul, Nat.reduceSub, Nat.reduceLeDiff, Int.reduceAdd, Int.reduceSub, Int.reduceToNat, Int.reduceLT, Int.reduceLE, Int.reduceNeg, Int.reduceEq, Int.reduceNe, Int.reduceBEq, Int.reduceBNe, Bool.false_eq_true, reduceCtorEq]); (repeat (first | refine And.intro (chk_of (by kernel_rfl)) ?_ | refine And.intro (by omega) ?_)); exact h.out)) : P := s ⟨h⟩
theorem st_all (xs : List UInt8) (hx : xs.length ≤ 1000) : ∀ d, StC xs d := fun d => by
  induction d using Nat.strongRecOn with
  | _ d ih => exact stmt_ok xs hx d (fun d' h => stmts_ok xs d' (ih d' h))
def us61 : Nat → List (Nat × Nat) := fun i => if i = 14 then [(1, 4), (1, 5)] else if i = 15 then [(1, 6), (1, 7), (1, 9)] else if i = 17 then [(1, 3), (1, 4)] else []
structure PgOk (bs : List (List Sm)) : Prop where
  n1 : 1 ≤ bs.length
  n4 : bs.length ≤ 4
  l20 : ∀ b ∈ bs, b.length ≤ 20
  d2 : ∀ b ∈ bs, ∀ s ∈ b, SmD 2 s
theorem cntL_bd {K : Nat} : ∀ (l : List Sm), (∀ s ∈ l, cntS s ≤ K) → cntL l ≤ l.length * K
  | [], _ => by simp [cntL]
  | s :: r, h => by
    have h1 := cntL_bd r (fun x hx => h x (List.mem_cons_of_mem _ hx))
    have h2 := h s (List.mem_cons_self ..)
    simp only [cntL, List.length_cons, Nat.succ_mul]
    omega
theorem cnt_d0 (s : Sm) (h : SmD 0 s) : cntS s ≤ 1 := by
  rw [cntS_eq, h.1, h.2]; simp [cntL]
theorem cnt_d1 (s : Sm) (h : SmD 1 s) : cntS s ≤ 21 := by
  have h1 := cntL_bd s.body (fun x hx => cnt_d0 x (h.1.2 x hx))
  have h2 := cntL_bd s.els (fun x hx => cnt_d0 x (h.2.2 x hx))
  have h3 := h.1.1
  have h4 := h.2.1
  rw [cntS_eq]; omega
theorem cnt_d2 (s : Sm) (h : SmD 2 s) : cntS s ≤ 421 := by
  have h1 := cntL_bd s.body (fun x hx => cnt_d1 x (h.1.2 x hx))
  have h2 := cntL_bd s.els (fun x hx => cnt_d1 x (h.2.2 x hx))
  have h3 := h.1.1
  have h4 := h.2.1
  rw [cntS_eq]; omega
theorem cntP_bd : ∀ (bs : List (List Sm)), (∀ b ∈ bs, b.length ≤ 20) → (∀ b ∈ bs, ∀ s ∈ b, SmD 2 s) → cntP bs ≤ bs.length * 8420
  | [], _, _ => by simp [cntP]
  | b :: r, h1, h2 => by
    have h3 := cntP_bd r (fun x hx => h1 x (List.mem_cons_of_mem _ hx)) (fun x hx => h2 x (List.mem_cons_of_mem _ hx))
    have h4 := cntL_bd b (fun x hx => cnt_d2 x (h2 b (List.mem_cons_self ..) x hx))
    have h5 := h1 b (List.mem_cons_self ..)
    simp only [cntP, List.length_cons, Nat.succ_mul]
    omega
theorem PgOk.check {bs : List (List Sm)} (h : PgOk bs) : FnEq Tryz.prog 68 [rw_ (pgR bs)] (.tup [.pv (intP (progF bs)), .pv (intP 0)]) :=
  program4_ok bs h.n1 h.n4 (fun b hb => shL b (by have := h.l20 b hb; omega) (fun s hs => shAll 2 s (h.d2 b hb s hs))) (by have := cntP_bd bs h.l20 h.d2; have := h.n4; omega)
@[go_sem] def mbox (m : MS) : Obj := .box [.ptr 2 0, .pv (intP m.th), .pv (intP m.left), .pv (boolP m.set), .pv (boolP m.tx), .pv (boolP m.atomic), .pv (boolP m.loop), .own 3 m.held.length]
@[go_sem] def pS (xs : List UInt8) (k : Nat) (m : MS) (bs : List (List Sm)) : List (Option Obj) := [some (.box [.emp, .emp]), some (mbox m), some (tapeO xs k), some (rowS m.held), some (.box [.pv (.sl dclR), .own 5 bs.length]), some (.row 176 4 (bs.zipIdx.map thRow))]
@[go_sem] def pE (n : Int) (i : Nat) : List (Nat × AV) := [(2, .ptr 0 0), (3, .ptr 1 0), (4, .ptr 4 0), (5, .pv (intP n)), (6, .pv (.sl (strR (thNames 4)))), (7, .pv (intP i))]
theorem zip_snoc (bs : List (List Sm)) (l : List Sm) : (bs ++ [l]).zipIdx.map thRow = bs.zipIdx.map thRow ++ [thRow (l, bs.length)] := by
  simp [List.zipIdx_append]
theorem thNames4 (i : Nat) (h : i < 4) : (thNames 4)[i]? = some (thName i) := by
  match i, h with
  | 0, _ => rfl
  | 1, _ => rfl
  | 2, _ => rfl
  | 3, _ => rfl
@[go_sem] def tb (i : Nat) (b : AV) : Obj := .box [.pv (strP (thName i)), .pv (intP 0), .pv (.sl (strR loNames)), b]
theorem smj : smR .join = stR 13 (thName 1) bE [] ⟨0, 0, bE, []⟩ [] [] := rfl
theorem pg1 : PgOk [[.asg .x (.leaf (.num 1))]] := ⟨by decide, by decide, by simp, by simp only [List.mem_singleton, forall_eq]; exact SmD_leaf rfl rfl 2⟩
attribute [local go_sem] List.set_cons_zero List.set_cons_succ zip_snoc loNames smj smL
theorem program_ok (xs : List UInt8) (hx : xs.length ≤ 1000) : FnOk Tryz.prog 45 [.pv (u8L xs)] (fun r => ∃ bs, r = rw_ (pgR bs) ∧ PgOk bs ∧ progF bs = 0) := by
  refine wf Tryz.func45 us61 (h := fun R hR => ?_)
  refine wb ?_ <;> intros
  refine wE decls_ok ?_
  refine wb ?_ <;> intros
  refine wq (next_ok xs 0 3 hx (Nat.zero_le _) (by decide) (by decide)) [24] ?_
  rintro r g ⟨rfl, k, hk, rfl⟩
  have hn := nxt_lt xs 0 (n := 3) (by decide)
  generalize nxt xs 0 3 = q at hn
  refine wb ?_ <;> intros
  refine sr_ghost 40 7 9 1 rfl rfl ?_
  refine sr_ghost 72 1 176 4 rfl rfl ?_
  refine wl (fun u : List (List Sm) × MS × Nat => pE (2 + (q : Int)) u.1.length) (fun u => pS xs u.2.2 u.2.1 u.1) (fun u => u.1.length ≤ 2 + q ∧ (∀ b ∈ u.1, b.length ≤ 20) ∧ (∀ b ∈ u.1, ∀ s ∈ b, SmD 2 s) ∧ u.2.1.held = [] ∧ u.2.2 ≤ xs.length) (fun u => 2 + q - u.1.length) ([], ⟨0, 20, false, false, false, false, []⟩, k) ⟨Nat.zero_le _, by simp, by simp, rfl, hk⟩ (vm [0, 40, 24, 168, 72, 169]) (fun ⟨bs, m, k⟩ ⟨hi, hl, hs, hm, hk⟩ => ?_)
  dsimp only at hi hl hs hm hk
  refine ws ?_
  refine w0 ?_
  refine wg ?_
  (refine cr_cnd rfl ?_; refine ws ?_; first | (refine ⟨fun _ => ?_, fun _ => ?_⟩ <;> first | (exfalso; omega) | skip) | (rw [cnd_var]; refine ⟨fun _ => ?_, fun _ => ?_⟩) | skip)
  · refine w0 ?_
    refine wg ?_
    refine cr_reg rfl ?_
    refine ws ?_
    refine row_map (x := thName bs.length) (by omega) (by rw [Int.toNat_natCast, thNames4 _ (by omega)]) rfl ?_
    refine ws ?_
    refine w0 ?_
    refine sr_ghost 118 3 196 11 rfl rfl ?_
    refine wg ?_
    obtain ⟨m', hm'⟩ : ∃ m' : MS, m' = { m with th := bs.length } := ⟨_, rfl⟩
    have hh : m'.held = [] := by rw [hm']; exact hm
    refine sr_join (fun _ : List Sm => pE (2 + (q : Int)) bs.length ++ [(8, .ptr 6 0)]) (fun l => pS xs k m' bs ++ [some (tb bs.length (.own 7 l.length)), some (smO l)]) (fun l => l.length ≤ 4 ∧ ∀ s ∈ l, SmD 2 s) ?_ (fun l ⟨hl4, hls⟩ => ?_)
    · subst hm'
      (refine cr_cnd rfl ?_; refine ws ?_; first | (refine ⟨fun _ => ?_, fun _ => ?_⟩ <;> first | (exfalso; omega) | skip) | (rw [cnd_var]; refine ⟨fun _ => ?_, fun _ => ?_⟩) | skip)
      · refine wb ?_ <;> intros
        refine wl (fun u : Nat × List Sm => pE (2 + (q : Int)) bs.length ++ [(8, .ptr 6 0), (9, .pv (intP u.1))]) (fun u => pS xs k { m with th := bs.length } bs ++ [some (tb bs.length (.own 7 u.2.length)), some (smO u.2)]) (fun u => u.1 ≤ 2 + q ∧ u.2.length ≤ u.1 ∧ ∀ s ∈ u.2, SmD 2 s) (fun u => 2 + q - u.1) (1, []) ⟨by omega, by simp, by simp⟩ (vm [0, 1, 2, 3, 4, 5, 118, 134]) (fun ⟨j, l⟩ ⟨hj, hjl, hjs⟩ => ?_)
        dsimp only at hj hjl hjs
        refine wb (A2.mk ?_ ?_) <;> intros
        · refine row_map (x := thName j) (by omega) (by rw [Int.toNat_natCast, thNames4 _ (by omega)]) rfl ?_
          refine wb ?_ <;> intros
          exact sr_mark ⟨(j + 1, l ++ [.spawn j]), ⟨by dsimp only; omega, by simp; omega, by simpa [or_imp, forall_and] using ⟨hjs, SmD_leaf rfl rfl 2⟩⟩, by dsimp only; omega, vm [0, 1, 2, 3, 4, 5, 6, 96]⟩
        · exact sr_mark ⟨l, ⟨by omega, hjs⟩, vm [0, 1, 2, 3, 4, 5, 6, 7]⟩
      · refine w0 ?_
        exact sr_mark ⟨[], ⟨by simp, by simp⟩, vm [0, 1, 2, 3, 4, 5, 118, 134]⟩
    clear hm'
    refine wb ?_ <;> intros
    refine wQ (next_ok xs k 3 hx hk (by decide) (by decide)) [2] ⟨rfl, k, hk, rfl⟩ ?_
    rintro r g ⟨rfl, k2, hk2, rfl⟩
    have hn2 := nxt_lt xs k (n := 3) (by decide)
    generalize nxt xs k 3 = q2 at hn2
    refine wb ?_ <;> intros
    refine wQ (stmts_fz xs 2 (st_all xs hx 2) k2 m' (1 + q2) hk2 (by rw [hh]; decide) (by omega)) [1, 2, 3] ⟨[], m', k, Nat.zero_le _, by simp, rfl, hk, rfl, rfl⟩ ?_
    rintro r g ⟨l2, m2, k3, p1, p2, p3, p4, rfl, rfl⟩
    have hh2 : m2.held = [] := by rw [p3, hh]
    refine wa ?_
    refine cr_seq rfl ?_
    refine sr_join (fun u : List Sm × Nat => pE (2 + (q : Int)) bs.length ++ [(8, .ptr 6 0)]) (fun u => pS xs u.2 m2 bs ++ [some (tb bs.length (.pv (smL u.1)))]) (fun u => u.1.length ≤ 20 ∧ (∀ s ∈ u.1, SmD 2 s) ∧ u.2 ≤ xs.length) ?_ (fun ⟨b, k4⟩ ⟨hb1, hb2, hk4⟩ => ?_)
    · have hs2 : ∀ s ∈ l ++ l2, SmD 2 s := fun s h => (List.mem_append.1 h).elim (hls s) (p2 s)
      refine wb (A2.mk ?_ ?_) <;> intros
      · refine wq (next_ok xs k3 3 hx p4 (by decide) (by decide)) [2] ?_
        rintro r g ⟨rfl, k4, hk4, rfl⟩
        refine wb (A2.mk ?_ ?_) <;> intros
        · refine row_get (by omega) rfl rfl ?_
          refine wb ?_ <;> intros
          exact sr_mark ⟨(l ++ l2 ++ [.join], k4), ⟨by simp; omega, fun s h => (List.mem_append.1 h).elim (hs2 s) (fun h => by rw [List.mem_singleton.1 h]; exact SmD_leaf rfl rfl 2), hk4⟩, vm [0, 1, 2, 80, 4, 5, 6] [(248, none)]⟩
        · exact sr_mark ⟨(l ++ l2, k4), ⟨by simp; omega, hs2, hk4⟩, vm [0, 1, 2, 80, 4, 5, 6] [(88, none)]⟩
      · exact sr_mark ⟨(l ++ l2, k3), ⟨by simp; omega, hs2, p4⟩, vm [0, 1, 2, 80, 4, 5, 6] [(88, none)]⟩
    dsimp only at hb1 hb2 hk4
    refine wb ?_ <;> intros
    refine sr_mark ⟨(bs ++ [b], m2, k4), ⟨by simp; omega, fun x h => (List.mem_append.1 h).elim (hl x) (fun h => by rw [List.mem_singleton.1 h]; exact hb1), fun x h => (List.mem_append.1 h).elim (hs x) (fun h => by rw [List.mem_singleton.1 h]; exact hb2), hh2, hk4⟩, by simp; omega, vm [0, 1, 2, 3, 4, 39]⟩
  · have hp : PgOk bs := ⟨by omega, by omega, hl, hs⟩
    refine w0 ?_
    refine sr_view (pE (2 + (q : Int)) bs.length) [some (.box [.emp, .emp]), none, none, none, some (.box ((pgR bs).map .pv))] (vm [0, 1, 2, 3, 4] [(5, none)]) ?_
    refine wb ?_ <;> intros
    refine wE hp.check ?_
    refine wb (A2.mk ?_ ?_) <;> intros
    · refine wE decls_ok ?_
      refine wb ?_ <;> intros
      refine wE (num_ok 1) ?_
      refine wb ?_ <;> intros
      refine wE (assign_ok ⟨#[120]⟩ ⟨1, 1, bE, []⟩) ?_
      refine wb ?_ <;> intros
      exact wt hR (rw_ (pgR [[.asg .x (.leaf (.num 1))]])) [] ⟨_, rfl, pg1, rfl⟩
    · exact wt hR (rw_ (pgR bs)) [] ⟨_, rfl, hp, ‹_›⟩
end AM
