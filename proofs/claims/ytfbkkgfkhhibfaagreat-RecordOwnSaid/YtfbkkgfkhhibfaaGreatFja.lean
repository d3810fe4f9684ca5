/- The functions that Trace needs: lists of threads. -/
import Derived.Test.YtfbkkgfkhhibfaaGreatFzj
import Derived.Test.YtfbkkgfkhhibfaaGreatFjc
namespace AM
open Go Go.Proofs
set_option linter.unusedVariables false
set_option linter.unusedSimpArgs false
set_option maxRecDepth 20000
set_option maxHeartbeats 8000000
theorem Asc.filter {b : Nat} {l : List Nat} (h : Asc b l) (p : Nat → Bool) : Asc b (l.filter p) := ⟨h.1.sublist List.filter_sublist, fun n hn => h.2 n (List.mem_filter.1 hn).1⟩
def neI (n : Int) (x : Nat) : Bool := decide ((x : Int) ≠ n)
theorem filt_snoc {l : List Nat} {p : Nat → Bool} {k x : Nat} (h : l[k]? = some x) : (l.take (k + 1)).filter p = (l.take k).filter p ++ (if p x = true then [x] else []) := by
  rw [List.take_add_one, h, List.filter_append]
  simp [List.filter_cons]
attribute [local go_sem] List.map_append List.length_append List.map_cons List.map_nil List.length_singleton
theorem without_ok (b : Nat) (hb : b ≤ 400) (l : List Nat) (hl : Asc b l) (n : Int) : FnOk Tryz.prog 133 [.pv (.sl (nL l)), .pv (intP n)] (fun r => ∃ m, Asc b m ∧ r = .pv (.sl (nL m))) := by
  have h4 : l.length ≤ 400 := Nat.le_trans hl.len hb
  refine wf Tryz.func133 (fun _ => []) (h := fun R hR => ?_)
  refine wb ?_ <;> intros
  refine sr_ghostE 5 3 1 (by exact we) ?_
  refine wl (fun k : Nat => [(0, .pv (.sl (nL l))), (1, .pv (intP n)), (5, .own 0 ((l.take k).filter (neI n)).length), (6, .pv (intP k))]) (fun k => [some (.row 3 1 (nL ((l.take k).filter (neI n))))]) (fun k => k ≤ l.length) (fun k => l.length - k) 0 (Nat.zero_le _) (vm [24]) (fun k hk => ?_)
  refine wb (A2.mk ?_ ?_) <;> intros
  · have h2 : k < l.length := by omega
    have hg := List.getElem?_eq_getElem h2
    have hfs := filt_snoc (p := neI n) hg
    have hfl : ((l.take k).filter (neI n)).length ≤ 400 := Nat.le_trans (List.length_filter_le _ _) (by simp; omega)
    generalize l[k] = y at hg hfs
    refine row_map (x := y) (by omega) (by simpa using hg) rfl ?_
    refine wb (A2.mk ?_ ?_) <;> intros
    · refine row_map (x := y) (by omega) (by simpa using hg) rfl ?_
      refine wb ?_ <;> intros
      have hp : neI n y = true := by unfold neI; rw [decide_eq_true_eq]; assumption
      rw [if_pos hp] at hfs
      refine sr_mark ⟨k + 1, h2, by omega, ?_⟩
      rw [hfs]
      exact vm [129]
    · have hp : ¬ neI n y = true := by unfold neI; rw [decide_eq_true_eq]; omega
      rw [if_neg hp, List.append_nil] at hfs
      refine sr_mark ⟨k + 1, h2, by omega, ?_⟩
      rw [hfs]
      exact vm [0]
  · obtain rfl : k = l.length := by omega
    rw [List.take_length]
    exact wt hR (.pv (.sl (nL (l.filter (neI n))))) [(0, none)] ⟨_, hl.filter _, rfl⟩
end AM

/- The functions that Trace needs: what an event names. -/
namespace AM
open Go Go.Proofs Mk
set_option linter.unusedVariables false
set_option linter.unusedSimpArgs false
set_option maxRecDepth 20000
set_option maxHeartbeats 8000000
structure NmOk (n : Nat) (k o : Int) : Prop where
  kd : 1 ≤ k ∧ k ≤ 23
  c : k = 3 ∨ k = 4 → 0 ≤ o ∧ o < 5
  l : 6 ≤ k ∧ k ≤ 11 → 0 ≤ o ∧ o < 3
  d : 16 ≤ k ∧ k ≤ 19 → o = 0
  t : k = 20 ∨ k = 21 → 0 ≤ o ∧ o < n
  f : 22 ≤ k ∧ k ≤ 23 → o = 0
def BoolIf (p : Prop) (r : AV) : Prop := ∃ z, r = .pv (boolP z) ∧ (z = true → p)
attribute [local go_sem] thNames_len
theorem named_ok (n : Nat) (hn : n ≤ 4) (ss : List (Nat × Nat)) (k o : Int) : FnOk Tryz.prog 161 [rw_ (wldR n ss), .pv (intP k), .pv (intP o)] (BoolIf (NmOk n k o)) := by
  refine wf Tryz.func161 (fun _ => []) (h := fun R hR => ?_)
  refine cr_seq rfl ?_
  refine wb (A2.mk ?_ (A2.mk ?_ (A2.mk ?_ (A2.mk ?_ (A2.mk ?_ (A2.mk ?_ (A2.mk ?_ (A2.mk ?_ (A2.mk ?_ (A2.mk ?_ (A2.mk ?_ (A2.mk ?_ (A2.mk ?_ (A2.mk ?_ (A2.mk ?_ (A2.mk ?_ (A2.mk ?_ (A2.mk ?_ (A2.mk ?_ (A2.mk ?_ (A2.mk ?_ (A2.mk ?_ (A2.mk ?_ ?_))))))))))))))))))))))) <;> intros
  all_goals try exact wt hR (.pv (boolP (o == -1))) [] ⟨_, rfl, fun h => by simp only [beq_iff_eq] at h; constructor <;> omega⟩
  all_goals try exact wt hR (.pv (boolP false)) [] ⟨_, rfl, fun h => by cases h⟩
  all_goals try (refine wE (in8_ok o 5) ?_; refine wb ?_ <;> intros; exact wt hR (.pv (boolP (decide (0 ≤ o) && decide (o < 5)))) [] ⟨_, rfl, fun h => by simp only [Bool.and_eq_true, decide_eq_true_eq] at h; constructor <;> omega⟩)
  all_goals try (refine wE (in8_ok o 1) ?_; refine wb ?_ <;> intros; exact wt hR (.pv (boolP (decide (0 ≤ o) && decide (o < 1)))) [] ⟨_, rfl, fun h => by simp only [Bool.and_eq_true, decide_eq_true_eq] at h; constructor <;> omega⟩)
  all_goals try (refine wE (in8_ok o n) ?_; refine wb ?_ <;> intros; exact wt hR (.pv (boolP (decide (0 ≤ o) && decide (o < n)))) [] ⟨_, rfl, fun h => by simp only [Bool.and_eq_true, decide_eq_true_eq] at h; constructor <;> omega⟩)
  all_goals
    refine wE (in8_ok o 3) ?_
    refine wb (A2.mk ?_ ?_) <;> intros
    · rename_i hx
      simp only [Bool.and_eq_true, decide_eq_true_eq] at hx
      obtain rfl | rfl | rfl : o = 0 ∨ o = 1 ∨ o = 2 := by omega
      all_goals
        refine row_get (by omega) rfl rfl ?_
        refine wb ?_ <;> intros
        first
          | exact wt hR (.pv (boolP true)) [] ⟨_, rfl, fun _ => by constructor <;> omega⟩
          | exact wt hR (.pv (boolP false)) [] ⟨_, rfl, fun h => by cases h⟩
    · exact wt hR (.pv (boolP false)) [] ⟨_, rfl, fun h => by cases h⟩
end AM

/- The functions that Trace needs: the threads that wait. -/
namespace AM
open Go Go.Proofs Mk
set_option linter.unusedVariables false
set_option linter.unusedSimpArgs false
set_option maxRecDepth 20000
set_option maxHeartbeats 8000000
theorem asc_snoc {k : Nat} {l : List Nat} (h : Asc k l) : Asc (k + 1) (l ++ [k]) := by
  refine ⟨?_, fun n hn => ?_⟩
  · rw [List.pairwise_append]
    refine ⟨h.1, List.pairwise_singleton _ _, fun a ha b hb => ?_⟩
    rw [List.mem_singleton.1 hb]
    exact h.2 a ha
  · rcases List.mem_append.1 hn with hn | hn
    · exact Nat.lt_succ_of_lt (h.2 n hn)
    · rw [List.mem_singleton.1 hn]; exact Nat.lt_succ_self k
attribute [local go_sem] List.map_append List.length_append List.map_cons List.map_nil List.length_singleton
theorem waiting_ok (n : Nat) (hn : n ≤ 4) (tx c : Int) : FnOk Tryz.prog 134 [rw_ (syR n tx), .pv (intP c)] (fun r => ∃ ws, Asc n ws ∧ r = .pv (.sl (nL ws))) := by
  refine wf Tryz.func134 (fun _ => []) (h := fun R hR => ?_)
  refine wb ?_ <;> intros
  refine sr_ghostE 5 3 1 (by exact we) ?_
  refine wl (fun u : Nat × List Nat => [(1, .pv (intP c)), (2, .ptr 0 0), (5, .own 1 u.2.length), (6, .pv (intP u.1))]) (fun u => [some (.box ((syR n tx).map .pv)), some (.row 3 1 (nL u.2))]) (fun u => u.1 ≤ n ∧ Asc u.1 u.2) (fun u => n - u.1) (0, []) ⟨Nat.zero_le _, List.Pairwise.nil, fun n hn => nomatch hn⟩ (vm [0, 32]) (fun ⟨k, ws⟩ ⟨hk, hw⟩ => ?_)
  dsimp only at hk hw
  have hw4 : ws.length ≤ 4 := Nat.le_trans hw.len (by omega)
  refine wb (A2.mk ?_ ?_) <;> intros
  · refine ty_int fun x hx => ?_
    refine wb (A2.mk ?_ ?_) <;> intros
    · refine ty_int fun y hy => ?_
      refine wb (A2.mk ?_ ?_) <;> intros
      · exact sr_mark ⟨(k + 1, ws ++ [k]), ⟨by omega, asc_snoc hw⟩, by dsimp only; omega, vm [0, 202]⟩
      · exact sr_mark ⟨(k + 1, ws), ⟨by omega, hw.weak (Nat.le_succ k)⟩, by dsimp only; omega, vm [0, 1]⟩
    · exact sr_mark ⟨(k + 1, ws), ⟨by omega, hw.weak (Nat.le_succ k)⟩, by dsimp only; omega, vm [0, 1]⟩
  · exact wt hR (.pv (.sl (nL ws))) [(1, none)] ⟨ws, hw.weak hk, rfl⟩
end AM

/- The functions that Trace needs: a state fits a code. -/
namespace AM
open Go Go.Proofs Mk
set_option linter.unusedVariables false
set_option linter.unusedSimpArgs false
set_option maxRecDepth 20000
set_option maxHeartbeats 8000000
def FitT (r : Int) (l : List In) (x : Int × Nat × Nat × Int) : Prop := 0 ≤ x.1 ∧ x.1 < l.length ∧ (x.2.1 : Int) = r ∧ (x.2.2.1 : Int) = r
def FitP (cs : List (Int × List In)) (xs : List (Int × Nat × Nat × Int)) (n : Nat) : Prop := ∀ (k : Nat) r l x, k < n → cs[k]? = some (r, l) → xs[k]? = some x → FitT r l x
def us114 : Nat → List (Nat × Nat) := fun _ => [(5, 7), (5, 9), (5, 11), (17, 20), (17, 22), (17, 24), (29, 32), (29, 34), (29, 36)]
theorem fits9_ok (n : Nat) (ss : List (Nat × Nat)) (cs : List (Int × List In)) (C : CdG n ss cs) (tx : Int) (m : Nat) (xs : List (Int × Nat × Nat × Int)) (hl : xs.length = n) (hx : ∀ x ∈ xs, TsK m x) : FnOk Tryz.prog 127 [rw_ (coR n ss cs), rw_ (xstR n tx m xs)] (BoolIf (FitP cs xs n)) := by
  obtain ⟨n1, n4, s60, so, val, len, good, num⟩ := C
  have hfit := fits8_ok n ss n4 tx
  refine wf Tryz.func127 us114 (h := fun R hR => ?_)
  refine wb ?_ <;> intros
  refine wE val ?_
  refine wb ?_ <;> intros
  refine wE hfit ?_
  refine wb ?_ <;> intros
  all_goals try exact wt hR (.pv (boolP false)) [] ⟨_, rfl, fun h => by cases h⟩
  refine wl (fun k : Nat => [(2, .ptr 0 0), (3, .ptr 1 0), (5, .pv (intP k))]) (fun k => [some (.box ((coR n ss cs).map .pv)), some (.box ((xstR n tx m xs).map .pv))]) (fun k => k ≤ n ∧ FitP cs xs k) (fun k => n - k) 0 ⟨Nat.zero_le _, fun k r l x h => absurd h (Nat.not_lt_zero k)⟩ (vm [0, 8]) (fun k ⟨hk, hf⟩ => ?_)
  refine wb (A2.mk ?_ ?_) <;> intros
  · have h2 : k < cs.length := by omega
    have h3 : k < xs.length := by omega
    have hg := List.getElem?_eq_getElem h2
    have hgx := List.getElem?_eq_getElem h3
    have hq := hx _ (List.getElem_mem h3)
    have hgk := good k cs[k].1 cs[k].2 hg
    generalize xs[k] = x at hgx hq
    generalize cs[k] = y at hg hgk
    obtain ⟨pc, r, s, ev⟩ := x
    obtain ⟨rr, l⟩ := y
    obtain ⟨x1, x2, x3, x4, x5⟩ := hq
    have hr0 := hgk.r0
    have hr1 := hgk.r1
    have hlen := hgk.len
    dsimp only at x1 x2 x3 x4 x5 hr0 hr1 hlen
    have hcr : (cs.map tcR)[k]? = some (tcR (rr, l)) := by rw [List.getElem?_map, hg]; rfl
    refine row_map (x := (pc, r, s, ev)) (by omega) (by simpa using hgx) rfl ?_
    refine wb (A2.mk ?_ ?_) <;> intros
    iterate 3
      all_goals try exact wt hR (.pv (boolP false)) [] ⟨_, rfl, fun h => by cases h⟩
      all_goals try (refine row_get (by omega) hcr rfl ?_; refine wb (A2.mk ?_ ?_) <;> intros)
    all_goals try exact wt hR (.pv (boolP false)) [] ⟨_, rfl, fun h => by cases h⟩
    refine sr_mark ⟨k + 1, ⟨by omega, fun j r' l' x' hj hc' hx' => ?_⟩, by omega, vm [0, 1]⟩
    rcases Nat.lt_or_ge j k with hjk | hjk
    · exact hf j r' l' x' hjk hc' hx'
    · obtain rfl : j = k := by omega
      rw [hg] at hc'
      rw [hgx] at hx'
      injection hc' with hc'
      injection hc' with e1 e2
      injection hx' with hx'
      subst e1 e2 hx'
      exact ⟨by dsimp only; omega, by dsimp only; omega, by assumption, by assumption⟩
  · exact wt hR (.pv (boolP true)) [] ⟨_, rfl, fun _ => by obtain rfl : k = n := by omega
                                                           exact hf⟩
end AM

/- The functions that Trace needs: what may happen next. -/
namespace AM
open Go Go.Proofs Mk
set_option linter.unusedVariables false
set_option linter.unusedSimpArgs false
set_option maxRecDepth 20000
set_option maxHeartbeats 8000000
def bz : Option AV → Prop
  | some (.pv (.sc (.bool _))) => True
  | _ => False
@[go_sem] theorem bz_some {z : Bool} : bz (some (.pv (.sc (.bool z)))) = True := rfl
theorem bz_get {x : Option AV} (h : bz x) : ∃ z, x = some (.pv (boolP z)) := by
  unfold bz at h
  split at h
  · exact ⟨_, rfl⟩
  · exact h.elim
theorem wtB {P : Program} {us : Nat → List (Nat × Nat)} {nt nx t : Nat} {R : Env → Sto → Prop} {hm : P.follows .mixedOrders = true} {k : List It} {c : Code} {env : Env} {σ : Sto} {p : Prop} (hR : ∀ env σ, RetVC P 0 [.tmp t] (fun v g => g = [] ∧ v.lb 0 = true ∧ BoolIf p v) env σ → R env σ) (hp : p) (hE : bz (env t) := by ((try clear hR); exact we)) (hc : isRet c = true := by rfl) : sr ⟨P, us, nt, 0, R, hm⟩ (.code c :: k) env σ nx := by
  obtain ⟨z, hz⟩ := bz_get hE
  exact wt hR (.pv (boolP z)) [] ⟨z, rfl, fun _ => hp⟩ (hf := trivial) (hE := by simp [rA, hz, wk, oneA]) (hc := hc)
def us117 : Nat → List (Nat × Nat) := fun i => if i = 8 then [(11, 13), (11, 15), (11, 17)] else if i = 34 then [(1, 3), (1, 5), (1, 7)] else []
attribute [local go_sem] thNames_len
theorem enabled_ok (n : Nat) (hn : n ≤ 4) (ss : List (Nat × Nat)) (tx t k o : Int) (htx : i64 tx) : FnOk Tryz.prog 130 [rw_ (wldR n ss), rw_ (syR n tx), .pv (intP t), .pv (intP k), .pv (intP o)] (BoolIf ((0 ≤ t ∧ t < n) ∧ NmOk n k o)) := by
  refine wf Tryz.func130 us117 (h := fun R hR => ?_)
  refine wb ?_ <;> intros
  refine wE (fits8_ok n ss hn tx) ?_
  refine wb ?_ <;> intros
  refine wE (in8_ok t n) ?_
  refine wb (A2.mk ?_ ?_) <;> intros
  all_goals try exact wt hR (.pv (boolP false)) [] ⟨_, rfl, fun h => by cases h⟩
  refine wF (named_ok n hn ss k o) ?_
  rintro v ⟨z, rfl, hz⟩
  refine wb (A2.mk ?_ ?_) <;> intros
  all_goals try exact wt hR (.pv (boolP false)) [] ⟨_, rfl, fun h => by cases h⟩
  rename_i hx hz1
  simp only [Bool.and_eq_true, decide_eq_true_eq] at hx
  have H := hz hz1
  have h2 := H.c
  have h3 := H.l
  have h4 := H.d
  have h5 := H.t
  have h6 := H.f
  refine And.intro hx ?_
  refine wb ?_ <;> intros
  refine ty_int fun st hst => ?_
  refine ty_int fun wt1 hwt => ?_
  refine ty_bool fun bt => ?_
  refine wb (A2.mk ?_ (A2.mk ?_ (A2.mk ?_ (A2.mk ?_ (A2.mk ?_ (A2.mk ?_ (A2.mk ?_ (A2.mk ?_ (A2.mk ?_ (A2.mk ?_ (A2.mk ?_ (A2.mk ?_ (A2.mk ?_ (A2.mk ?_ (A2.mk ?_ (A2.mk ?_ (A2.mk ?_ (A2.mk ?_ (A2.mk ?_ (A2.mk ?_ (A2.mk ?_ (A2.mk ?_ (A2.mk ?_ (A2.mk ?_ ?_)))))))))))))))))))))))) <;> intros
  all_goals try exact wtB hR ⟨hx, H⟩
  all_goals try (first
    | (refine ty_int fun x _ => ?_; (first | (refine wb ?_ <;> intros) | (refine wb (A2.mk ?_ ?_) <;> intros)))
    | (refine ty_bool fun x => ?_; refine wb ?_ <;> intros)
    | (have e0 : o = 0 := h4 (by omega); subst e0; refine row_get (by omega) rfl rfl ?_; refine wb ?_ <;> intros)
    | (refine ty_asc fun l hl => ?_; have hl4 := hl.len; refine wF (has_ok 400 (Nat.le_refl _) l hl t) ?_; rintro v ⟨z2, rfl, _⟩; refine wb ?_ <;> intros)
    | (refine ty_asc fun l hl => ?_; have hl4 := hl.len; skip))
  all_goals try exact wtB hR ⟨hx, H⟩
  all_goals try (first
    | (refine ty_int fun x _ => ?_; refine wb ?_ <;> intros)
    | (refine ty_bool fun x => ?_; skip)
    | (have e0 : o = 0 := h4 (by omega); subst e0; refine row_get (by omega) rfl rfl ?_; skip)
    | (refine ty_asc fun l hl => ?_; have hl4 := hl.len; refine wF (has_ok 400 (Nat.le_refl _) l hl t) ?_; rintro v ⟨z2, rfl, _⟩; refine wb ?_ <;> intros)
    | (refine ty_asc fun l hl => ?_; have hl4 := hl.len; refine wb ?_ <;> intros))
  all_goals try exact wtB hR ⟨hx, H⟩
  all_goals try (first
    | (refine ty_int fun x _ => ?_; skip)
    | (refine ty_bool fun x => ?_; skip)
    | (have e0 : o = 0 := h4 (by omega); subst e0; refine row_get (by omega) rfl rfl ?_; skip)
    | (refine ty_asc fun l hl => ?_; have hl4 := hl.len; refine wF (has_ok 400 (Nat.le_refl _) l hl t) ?_; rintro v ⟨z2, rfl, _⟩; skip)
    | (refine ty_asc fun l hl => ?_; have hl4 := hl.len; skip))
  all_goals try exact wtB hR ⟨hx, H⟩
end AM

/- The functions that Trace needs: an event changes the state of locks and threads. -/
namespace AM
open Go Go.Proofs Mk
set_option linter.unusedVariables false
set_option linter.unusedSimpArgs false
set_option maxRecDepth 20000
set_option maxHeartbeats 8000000
def ApQ (n : Nat) (t k o : Int) (r : AV) : Prop := (∃ tx v, r = .tup [rw_ (syR n tx), .pv (intP v), .pv (boolP true)] ∧ i64 tx ∧ i64 v ∧ (0 ≤ t ∧ t < n) ∧ NmOk n k o) ∨ r = .tup [rw_ [.sl [], intP 0, .sl [], .sl []], .pv (intP 0), .pv (boolP false)]
theorem apq_no {n : Nat} {t k o : Int} : ApQ n t k o (.tup [rw_ [.sl [], intP 0, .sl [], .sl []], .pv (intP 0), .pv (boolP false)]) := .inr rfl
theorem apq_yes {n : Nat} {t k o : Int} (h1 : 0 ≤ t ∧ t < n) (h2 : NmOk n k o) {tx v : Int} (h : i64 tx) (hv : i64 v) : ApQ n t k o (.tup [rw_ (syR n tx), .pv (intP v), .pv (boolP true)]) := .inl ⟨_, _, rfl, h, hv, h1, h2⟩
def us97 : Nat → List (Nat × Nat) := fun i => if i = 17 then [(1, 4), (1, 6), (1, 8), (1, 11)] else if i = 19 then [(1, 4), (1, 6), (1, 8), (1, 10)] else if i = 29 then [(1, 3), (1, 5), (1, 7)] else if i = 30 then [(1, 4), (4, 7), (4, 9)] else if i = 32 then [(1, 3), (1, 5), (1, 7)] else if i = 33 then [(1, 4), (4, 6), (4, 8)] else if i = 48 then [(1, 4), (1, 5)] else []
attribute [local go_sem] thNames_len
theorem apply8_ok (n : Nat) (hn : n ≤ 4) (ss : List (Nat × Nat)) (tx t k o w : Int) (htx : i64 tx) : FnOk Tryz.prog 99 [rw_ (wldR n ss), rw_ (syR n tx), .pv (intP t), .pv (intP k), .pv (intP o), .pv (intP w)] (ApQ n t k o) := by
  refine wf Tryz.func99 us97 (h := fun R hR => ?_)
  refine wb ?_ <;> intros
  refine wF (enabled_ok n hn ss tx t k o htx) ?_
  rintro v ⟨z, rfl, hz⟩
  refine wb (A2.mk ?_ ?_) <;> intros
  all_goals try exact wt hR (.tup [rw_ [.sl [], intP 0, .sl [], .sl []], .pv (intP 0), .pv (boolP false)]) [] apq_no
  rename_i hz1
  obtain ⟨hx, H⟩ := hz hz1
  obtain ⟨t, rfl⟩ := Int.eq_ofNat_of_zero_le hx.1
  have h2 := H.c
  have h3 := H.l
  have h4 := H.d
  have h5 := H.t
  have h6 := H.f
  have i0 := i64_0
  have im : i64 (-1) := i64_iff.2 (by omega)
  have it : i64 t := i64_iff.2 (by omega)
  refine wE (copy8_ok n tx hn) ?_
  refine wb (A2.mk ?_ (A2.mk ?_ (A2.mk ?_ (A2.mk ?_ (A2.mk ?_ (A2.mk ?_ (A2.mk ?_ (A2.mk ?_ (A2.mk ?_ (A2.mk ?_ (A2.mk ?_ (A2.mk ?_ (A2.mk ?_ (A2.mk ?_ (A2.mk ?_ (A2.mk ?_ (A2.mk ?_ (A2.mk ?_ ?_)))))))))))))))))) <;> intros
  all_goals try exact wt hR (.tup [rw_ (syR n tx), .pv (intP 0), .pv (boolP true)]) [] (apq_yes hx H htx i0)
  all_goals try exact wt hR (.tup [rw_ (syR n t), .pv (intP 0), .pv (boolP true)]) [] (apq_yes hx H it i0)
  all_goals try exact wt hR (.tup [rw_ (syR n (-1)), .pv (intP 0), .pv (boolP true)]) [] (apq_yes hx H im i0)
  · refine ty_asc fun l hl => ?_
    have hl4 := hl.len
    have h1 : Asc 400 [t] := ⟨List.pairwise_singleton _ _, fun m hm => by rw [List.mem_singleton.1 hm]; omega⟩
    refine wG (union_ok 400 (Nat.le_refl _) l hl [t] h1) (.pv (.sl (nL l))) ⟨l, hl, rfl⟩ ?_
    rintro v ⟨m, hm, rfl⟩
    refine wb ?_ <;> intros
    refine And.intro (asc_ok hm) ?_
    refine wb ?_ <;> intros
    exact wt hR (.tup [rw_ (syR n tx), .pv (intP 0), .pv (boolP true)]) [] (apq_yes hx H htx i0)
  · refine ty_asc fun l hl => ?_
    have hl4 := hl.len
    refine wG (without_ok 400 (Nat.le_refl _) l hl t) (.pv (.sl (nL l))) ⟨l, hl, rfl⟩ ?_
    rintro v ⟨m, hm, rfl⟩
    refine wb ?_ <;> intros
    refine And.intro (asc_ok hm) ?_
    refine wb ?_ <;> intros
    exact wt hR (.tup [rw_ (syR n tx), .pv (intP 0), .pv (boolP true)]) [] (apq_yes hx H htx i0)
  · obtain rfl : o = 0 := h4 (by omega)
    refine row_get (by omega) rfl rfl ?_
    refine wb ?_ <;> intros
    exact wt hR (.tup [rw_ (syR n tx), .pv (intP 0), .pv (boolP true)]) [] (apq_yes hx H htx i0)
  · obtain rfl : o = 0 := h4 (by omega)
    refine row_get (by omega) rfl rfl ?_
    refine wb ?_ <;> intros
    exact wt hR (.tup [rw_ (syR n tx), .pv (intP 0), .pv (boolP true)]) [] (apq_yes hx H htx i0)
  · refine wF (waiting_ok n hn tx o) ?_
    rintro v ⟨ws, hw, rfl⟩
    have hw4 : ws.length ≤ 4 := Nat.le_trans hw.len (by omega)
    refine wb (A2.mk ?_ ?_) <;> intros
    all_goals try exact wt hR (.tup [rw_ (syR n tx), .pv (intP (-1)), .pv (boolP true)]) [] (apq_yes hx H htx im)
    have h0 : 0 < ws.length := by omega
    have hq := hw.2 _ (List.getElem_mem h0)
    refine row_map (x := ws[0]) (by omega) (by simp [h0]) rfl ?_
    refine wb ?_ <;> intros
    refine wF (has_ok 400 (Nat.le_refl _) ws (hw.weak (by omega)) w) ?_
    rintro v ⟨z2, rfl, hz2⟩
    refine wb (A2.mk ?_ ?_) <;> intros
    · obtain ⟨m, hm, rfl⟩ := hz2 (by assumption)
      have hq2 := hw.2 m hm
      refine wb ?_ <;> intros
      exact wt hR (.tup [rw_ (syR n tx), .pv (intP m), .pv (boolP true)]) [] (apq_yes hx H htx (i64_iff.2 (by omega)))
    · exact wt hR (.tup [rw_ (syR n tx), .pv (intP (ws[0] : Nat)), .pv (boolP true)]) [] (apq_yes hx H htx (i64_iff.2 (by omega)))
  · refine wF (waiting_ok n hn tx o) ?_
    rintro v ⟨ws, hw, rfl⟩
    have hw4 : ws.length ≤ 4 := Nat.le_trans hw.len (by omega)
    refine wb ?_ <;> intros
    refine wl (fun j : Nat => [(7, .ptr 0 0), (12, .ptr 1 0), (18, .pv (.sl (nL ws))), (19, .pv (intP j))]) (fun _ => [some (.box ((syR n tx).map .pv)), some (.box [.emp, .pv (intP 0), .emp, .emp])]) (fun j => j ≤ ws.length) (fun j => ws.length - j) 0 (Nat.zero_le _) (vm [8, 16]) (fun j hj => ?_)
    refine wb (A2.mk ?_ ?_) <;> intros
    · have hj2 : j < ws.length := by omega
      have hq := hw.2 _ (List.getElem_mem hj2)
      refine row_map (x := ws[j]) (by omega) (by simp [hj2]) rfl ?_
      refine wb ?_ <;> intros
      exact sr_mark ⟨j + 1, hj2, by omega, vm [0, 1]⟩
    · exact wt hR (.tup [rw_ (syR n tx), .pv (intP ws.length), .pv (boolP true)]) [] (apq_yes hx H htx (i64_iff.2 (by omega)))
end AM
