/- The functions that Trace needs: statements that are made, as rows. -/
import Derived.Test.YtaiaoiochbpmfaaGreatFl
namespace AM
open Go Go.Proofs Mk
set_option linter.unusedVariables false
set_option linter.unusedSimpArgs false
set_option maxRecDepth 20000
theorem ACall.post {P : Program} {f : FuncId} {vs : List AV} {pre : List Obj} {p q : AV → List (Option Obj) → Prop} (h : ACall P f vs pre p) (hp : ∀ v g, p v g → q v g) : ACall P f vs pre q := fun fr Ψ loc w xs a b c d =>
  (h fr Ψ loc w xs a b c d).mono fun e w' ⟨r, v, g, Ψ', loc', h1, h2, h3⟩ => ⟨r, v, g, Ψ', loc', h1, hp _ _ h2, h3⟩
def lfE (l : Lf) : ER := ⟨l.op, l.n, l.name, []⟩
def lfR (l : Lf) : List PV := (lfE l).r
def exE (e : Ex) : ER := ⟨e.op, e.n, e.name, e.kids.map lfR⟩
theorem LfR.of {e : ER} (h : LfR e) : ∃ l, e = lfE l := by
  cases h with
  | @num n h => exact ⟨.num ⟨n, h⟩, rfl⟩
  | @var s h =>
    simp only [List.mem_cons, List.not_mem_nil, or_false] at h
    rcases h with rfl | rfl | rfl | rfl | rfl
    · exact ⟨.var .a, rfl⟩
    · exact ⟨.var .b, rfl⟩
    · exact ⟨.var .x, rfl⟩
    · exact ⟨.var .y, rfl⟩
    · exact ⟨.var .v, rfl⟩
theorem ExR.of {e : ER} (h : ExR e) : ∃ x, e = exE x := by
  cases h with
  | leaf h => obtain ⟨l, rfl⟩ := h.of; exact ⟨.leaf l, by cases l <;> rfl⟩
  | idx h => obtain ⟨l, rfl⟩ := h.of; exact ⟨.idx l, rfl⟩
  | bin ho ha hb =>
    obtain ⟨l, rfl⟩ := ha.of
    obtain ⟨r, rfl⟩ := hb.of
    simp only [List.mem_cons, List.not_mem_nil, or_false] at ho
    rcases ho with rfl | rfl | rfl | rfl | rfl | rfl
    · exact ⟨.bin 0 l r, rfl⟩
    · exact ⟨.bin 1 l r, rfl⟩
    · exact ⟨.bin 2 l r, rfl⟩
    · exact ⟨.bin 3 l r, rfl⟩
    · exact ⟨.bin 4 l r, rfl⟩
    · exact ⟨.bin 5 l r, rfl⟩
@[go_sem] def stR (op : Int) (name arg : ByteArray) (ix : List (List PV)) (e : ER) (b c : List (List PV)) : List PV := [intP op, intP 0, strP name, strP arg, .sl ix, intP e.op, intP e.n, strP e.s, .sl e.l, .sl b, .sl c]
def exO : Option Ex → ER
  | some e => exE e
  | none => ⟨0, 0, bE, []⟩
mutual
def smR : Sm → List PV
  | .ite e b c => stR 2 bE bE [] (exE e) (smRs b) (smRs c)
  | .whl e b => stR 3 bE bE [] (exE e) (smRs b) []
  | .blk k b => stR (Sm.op (.blk k [])) (Sm.name (.blk k [])) bE [] (exO none) (smRs b) []
  | .tx b => stR 7 bE bE [] (exO none) (smRs b) []
  | .atm b => stR 8 bE bE [] (exO none) (smRs b) []
  | s => stR s.op s.name s.arg (s.index.map lfR) (exO s.ex) [] []
def smRs : List Sm → List (List PV)
  | [] => []
  | s :: r => smR s :: smRs r
end
theorem smRs_map : ∀ l, smRs l = l.map smR
  | [] => rfl
  | s :: r => by simp only [smRs, List.map_cons, smRs_map r]
theorem smR_eq (s : Sm) : smR s = stR s.op s.name s.arg (s.index.map lfR) (exO s.ex) (s.body.map smR) (s.els.map smR) := by
  cases s <;> simp only [smR, smRs_map] <;> first | rfl | (rename_i k b; cases k <;> rfl) | skip
@[go_sem] theorem smR_len (s : Sm) : (smR s).length = 11 := by rw [smR_eq]; rfl
def SmD : Nat → Sm → Prop
  | 0, s => s.body = [] ∧ s.els = []
  | d + 1, s => (s.body.length ≤ 10 ∧ ∀ x ∈ s.body, SmD d x) ∧ s.els.length ≤ 10 ∧ ∀ x ∈ s.els, SmD d x
theorem assign_ok (s : ByteArray) (e : ER) : FnEq Tryz.prog 84 [.pv (strP s), rw_ e.r] (rw_ (stR 1 s bE [] e [] [])) := by
  refine wf Tryz.func84 (fun _ => []) (h := fun R hR => ?_)
  refine wb ?_ <;> intros
  all_goals exact wr hR
end AM

/- The functions that Trace needs: expressions that are shaped. -/
namespace AM
open Go Go.Proofs Mk
set_option linter.unusedVariables false
set_option linter.unusedSimpArgs false
set_option maxRecDepth 20000
def opnd (n : Int) : Int := if n = 1 ∨ n = 2 then 0 else if 3 ≤ n ∧ n ≤ 5 then 1 else if 6 ≤ n ∧ n ≤ 18 then 2 else -1
theorem operands_ok (n r : Int) (h : opnd n = r) : FnEq Tryz.prog 163 [.pv (intP n)] (.pv (intP r)) := by
  unfold opnd at h
  refine wf Tryz.func163 (fun _ => []) (h := fun R hR => ?_)
  refine wb (A2.mk ?_ (A2.mk ?_ (A2.mk ?_ (A2.mk ?_ (A2.mk ?_ ?_))))) <;> intros
  all_goals exact wr hR
theorem blank_ok : FnEq Tryz.prog 159 [rw_ (exO none).r] (.pv (boolP true)) := by
  unfold exO
  refine wf Tryz.func159 (fun _ => []) (h := fun R hR => ?_)
  refine wb ?_ <;> intros
  all_goals exact wr hR
attribute [local go_sem] lfR
theorem shapedLf (l : Lf) : FnEq Tryz.prog 158 [rw_ (lfR l)] (.pv (boolP true)) := by
  cases l with
  | num n =>
    simp only [lfR, lfE, Lf.op, Lf.n, Lf.name]
    refine wf Tryz.func158 (fun _ => [(1, 4), (2, 4)]) (h := fun R hR => ?_)
    refine wb ?_ <;> intros
    refine wE (operands_ok _ 0 rfl) ?_
    refine wb ?_ <;> intros
    refine w1 ?_
    refine wb ?_ <;> intros
    exact wr hR
  | var k =>
    cases k
    all_goals
      simp only [lfR, lfE, Lf.op, Lf.n, Lf.name, Nm.str]
      refine wf Tryz.func158 (fun _ => [(1, 4), (2, 4)]) (h := fun R hR => ?_)
      refine wb ?_ <;> intros
      refine wE (operands_ok _ 0 rfl) ?_
      refine wb ?_ <;> intros
      refine wE (isName_ok _ ?_) ?_
      decide +kernel
      refine wb ?_ <;> intros
      refine w1 ?_
      refine wb ?_ <;> intros
      exact wr hR
theorem shapedEx (x : Ex) : FnEq Tryz.prog 158 [rw_ (exE x).r] (.pv (boolP true)) := by
  cases x with
  | leaf l =>
    have := shapedLf l
    cases l <;> exact this
  | idx l =>
    simp only [exE, Ex.op, Ex.n, Ex.name, Ex.kids]
    refine wf Tryz.func158 (fun _ => [(1, 4), (2, 4)]) (h := fun R hR => ?_)
    refine wb ?_ <;> intros
    refine wE (operands_ok _ 1 rfl) ?_
    refine wb ?_ <;> intros
    refine wE (isName_ok _ ?_) ?_
    decide +kernel
    refine wb ?_ <;> intros
    refine w2 ?_
    refine wb ?_ <;> intros
    refine row_get (by omega) rfl rfl ?_
    refine wb ?_ <;> intros
    refine wE (shapedLf l) ?_
    refine wb ?_ <;> intros
    exact wr hR
  | bin k l r =>
    have hk : opnd (binOp k) = 2 ∧ binOp k ≠ 1 ∧ binOp k ≠ 2 ∧ binOp k ≠ 3 := by revert k; decide
    obtain ⟨hk, hk1, hk2, hk3⟩ := hk
    simp only [exE, Ex.op, Ex.n, Ex.name, Ex.kids]
    generalize binOp k = op at hk hk1 hk2 hk3
    refine wf Tryz.func158 (fun _ => [(1, 4), (2, 4)]) (h := fun R hR => ?_)
    refine wb ?_ <;> intros
    refine wE (operands_ok _ 2 hk) ?_
    refine wb ?_ <;> intros
    refine w3 ?_
    refine wb ?_ <;> intros
    refine row_get (by omega) rfl rfl ?_
    refine wb ?_ <;> intros
    refine wE (shapedLf l) ?_
    refine wb ?_ <;> intros
    refine row_get (by omega) rfl rfl ?_
    refine wb ?_ <;> intros
    refine wE (shapedLf r) ?_
    refine wb ?_ <;> intros
    exact wr hR
end AM

/- The functions that Trace needs: statements that are shaped. -/
namespace AM
open Go Go.Proofs Mk
set_option linter.unusedVariables false
set_option linter.unusedSimpArgs false
set_option maxRecDepth 20000
set_option maxHeartbeats 4000000
@[go_sem] theorem smR_take {s : Sm} : List.take 11 ((smR s).map AV.pv) = (smR s).map AV.pv := List.take_of_length_le (by simp [smR_len])
abbrev smL (l : List Sm) : PV := .sl (l.map smR)
def ShS (s : Sm) : Prop := FnEq Tryz.prog 150 [rw_ (smR s)] (.pv (boolP true))
def ShL (l : List Sm) : Prop := FnEq Tryz.prog 126 [.pv (smL l)] (.pv (boolP true))
theorem shL (l : List Sm) (hl : l.length ≤ 1000) (h : ∀ s ∈ l, ShS s) : ShL l := by
  unfold ShL
  refine wf Tryz.func126 (fun _ => []) (h := fun R hR => ?_)
  refine wb ?_ <;> intros
  refine wl (fun i : Nat => [(0, .pv (smL l)), (3, .pv (intP i))]) (fun _ => []) (fun i => i ≤ l.length) (fun i => l.length - i) 0 (Nat.zero_le _) (vm []) (fun i hi => ?_)
  refine wb (A2.mk ?_ ?_) <;> intros
  · refine row_pick l smR (by omega) (fun s hs => ?_)
    refine wb ?_ <;> intros
    refine wE (h s hs) ?_
    refine wb ?_ <;> intros
    exact sr_mark ⟨i + 1, by omega, by omega, vm []⟩
  · exact wr hR
theorem thName_eq (k : Nat) : thName k = ⟨#[109, 97, 105, 110]⟩ ∨ thName k = ⟨#[116, 49]⟩ ∨ thName k = ⟨#[116, 50]⟩ ∨ thName k = ⟨#[116, 51]⟩ := by
  match k with
  | 0 => exact .inl rfl
  | 1 => exact .inr (.inl rfl)
  | 2 => exact .inr (.inr (.inl rfl))
  | k + 3 => exact .inr (.inr (.inr rfl))
attribute [local go_sem] lfR
theorem shR (op : Int) (name arg : ByteArray) (ix : List Lf) (e : Option Ex) (b c : List Sm) (hb : ShL b) (he : ShL c) (hi : ix = [] ∨ op = 1 ∧ ∃ i, ix = [i])
    (h : e = none ∧ name = bE ∧ (op = 7 ∨ op = 8) ∧ arg = bE ∧ c = [] ∨ e = none ∧ nameB name = true ∧ 1 ≤ name.size ∧ (4 ≤ op ∧ op ≤ 6) ∧ arg = bE ∧ c = [] ∨ e = none ∧ nameB name = true ∧ 1 ≤ name.size ∧ (9 ≤ op ∧ op ≤ 13) ∧ arg = bE ∧ b = [] ∧ c = [] ∨ e = none ∧ nameB name = true ∧ 1 ≤ name.size ∧ op = 15 ∧ nameB arg = true ∧ 1 ≤ arg.size ∧ b = [] ∧ c = [] ∨
      ∃ x, e = some x ∧ arg = bE ∧ (name = bE ∧ (op = 2 ∨ op = 3 ∧ c = []) ∨ nameB name = true ∧ 1 ≤ name.size ∧ (op = 1 ∨ op = 14) ∧ b = [] ∧ c = [])) :
    FnEq Tryz.prog 150 [rw_ (stR op name arg (ix.map lfR) (exO e) (b.map smR) (c.map smR))] (.pv (boolP true)) := by
  unfold ShL at hb he
  obtain ⟨rfl, rfl, rfl | rfl, rfl, rfl⟩ | ⟨rfl, hn, hs, h, rfl, rfl⟩ | ⟨rfl, hn, hs, h, rfl, rfl, rfl⟩ | ⟨rfl, hn, hs, rfl, ha, has, rfl, rfl⟩ | ⟨x, rfl, rfl, ⟨rfl, rfl | ⟨rfl, rfl⟩⟩ | ⟨hn, hs, rfl | rfl, rfl, rfl⟩⟩ := h
  all_goals
    obtain rfl | ⟨h1, i, rfl⟩ := hi
    all_goals first | (exfalso; omega) | skip
    all_goals
      refine wf Tryz.func150 (fun _ => []) (h := fun R hR => ?_)
      repeat (refine wb ?_; intros; first | refine wE (isName_ok name hn) ?_ | refine wE (isName_ok arg ha) ?_ | refine wE (shapedLf i) ?_ | refine wE (shapedEx x) ?_ | refine wE blank_ok ?_ | refine wE hb ?_ | refine wE he ?_ | refine row_get (by omega) rfl rfl ?_)
      refine wb ?_
      intros
      exact wr hR
theorem shS (s : Sm) (hb : ShL s.body) (he : ShL s.els) : ShS s := by
  unfold ShS
  rw [smR_eq]
  refine shR _ _ _ _ _ _ _ hb he ?_ ?_
  · cases s <;> first | exact .inl rfl | exact .inr ⟨rfl, _, rfl⟩
  · cases s with
    | asg k e => exact .inr (.inr (.inr (.inr ⟨e, rfl, rfl, .inr ⟨show nameB k.str = true by cases k <;> decide +kernel, show 1 ≤ k.str.size by cases k <;> decide, .inl rfl, rfl, rfl⟩⟩)))
    | asq i e => exact .inr (.inr (.inr (.inr ⟨e, rfl, rfl, .inr ⟨by show nameB ⟨#[113]⟩ = true; decide +kernel, Nat.le_refl 1, .inl rfl, rfl, rfl⟩⟩)))
    | set e => exact .inr (.inr (.inr (.inr ⟨e, rfl, rfl, .inr ⟨by show nameB ⟨#[102]⟩ = true; decide +kernel, Nat.le_refl 1, .inr rfl, rfl, rfl⟩⟩)))
    | ite e b c => exact .inr (.inr (.inr (.inr ⟨e, rfl, rfl, .inl ⟨rfl, .inl rfl⟩⟩)))
    | whl e b => exact .inr (.inr (.inr (.inr ⟨e, rfl, rfl, .inl ⟨rfl, .inr ⟨rfl, rfl⟩⟩⟩)))
    | blk k b => exact .inr (.inl ⟨rfl, by cases k <;> (simp only [Sm.name]; decide +kernel), by cases k <;> exact Nat.le_refl 1, by cases k <;> (simp only [Sm.op]; decide), rfl, rfl⟩)
    | tx b => exact .inl ⟨rfl, rfl, .inl rfl, rfl, rfl⟩
    | atm b => exact .inl ⟨rfl, rfl, .inr rfl, rfl, rfl⟩
    | sig k => exact .inr (.inr (.inl ⟨rfl, by show nameB ⟨#[99]⟩ = true; decide +kernel, Nat.le_refl 1, by cases k <;> decide, rfl, rfl, rfl⟩))
    | spawn k => 
      have := thName_eq k
      exact .inr (.inr (.inl ⟨rfl, by simp only [Sm.name]; obtain h | h | h | h := this <;> (rw [h]; decide +kernel), by simp only [Sm.name]; obtain h | h | h | h := this <;> (rw [h]; decide), by simp only [Sm.op]; decide, rfl, rfl, rfl⟩))
    | join => exact .inr (.inr (.inl ⟨rfl, by show nameB ⟨#[116, 49]⟩ = true; decide +kernel, show 1 ≤ ByteArray.size ⟨#[116, 49]⟩ by decide, by decide, rfl, rfl, rfl⟩))
    | get => exact .inr (.inr (.inr (.inl ⟨rfl, by show nameB ⟨#[97]⟩ = true; decide +kernel, Nat.le_refl 1, rfl, by show nameB ⟨#[102]⟩ = true; decide +kernel, Nat.le_refl 1, rfl, rfl⟩)))
theorem shAll : ∀ (d : Nat) (s : Sm), SmD d s → ShS s
  | 0, s, h => shS s (h.1 ▸ shL [] (by decide) (by simp)) (h.2 ▸ shL [] (by decide) (by simp))
  | d + 1, s, h => shS s (shL _ (by have := h.1.1; omega) fun x hx => shAll d x (h.1.2 x hx)) (shL _ (by have := h.2.1; omega) fun x hx => shAll d x (h.2.2 x hx))
end AM

/- The functions that Trace needs: lists of statements that are made. -/
namespace AM
open Go Go.Proofs Mk
set_option linter.unusedVariables false
set_option linter.unusedSimpArgs false
set_option maxRecDepth 20000
def StC (xs : List UInt8) (d : Nat) : Prop := ∀ (k : Nat) (m : MS), k ≤ xs.length → m.held.length + d ≤ 100 → ACall Tryz.prog 108 [.ptr 0 0, .pv (intP d)] (m.os xs k) (fun v g => ∃ (s : Sm) (m' : MS) (k' : Nat), SmD d s ∧ m'.held = m.held ∧ k' ≤ xs.length ∧ v = rw_ (smR s) ∧ g = m'.og xs k')
abbrev smO (l : List Sm) : Obj := .row 190 11 (l.map smR)
def SsC (xs : List UInt8) (d : Nat) : Prop := ∀ (k : Nat) (m : MS) (n : Nat), k ≤ xs.length → m.held.length + d ≤ 100 → n ≤ 10 → ACall Tryz.prog 83 [.ptr 0 0, .pv (intP d), .pv (intP n)] (m.os xs k) (fun v g => ∃ (l : List Sm) (m' : MS) (k' : Nat), l.length ≤ n ∧ (∀ s ∈ l, SmD d s) ∧ m'.held = m.held ∧ k' ≤ xs.length ∧ v = .own 4 l.length ∧ g = m'.og xs k' ++ [some (smO l)])
theorem stmts_ok (xs : List UInt8) (d : Nat) (hS : StC xs d) : SsC xs d := by
  intro k m n hk hm hn
  refine wz Tryz.func83 (fun _ => []) (h := fun R hR => ?_)
  refine wb ?_ <;> intros
  refine sr_ghostE 7 190 11 (by exact we) ?_
  refine wl (fun t : Nat × List Sm × MS × Nat => [(0, .ptr 0 0), (1, .pv (intP d)), (2, .pv (intP n)), (7, .own 4 t.2.1.length), (8, .pv (intP t.1))]) (fun t => t.2.2.1.og xs t.2.2.2 ++ [some (smO t.2.1)]) (fun t => t.1 ≤ n ∧ t.2.1.length = t.1 ∧ (∀ s ∈ t.2.1, SmD d s) ∧ t.2.2.1.held = m.held ∧ t.2.2.2 ≤ xs.length) (fun t => n - t.1) (0, [], m, k) ⟨Nat.zero_le _, rfl, by simp, rfl, hk⟩ (vm [0, 1, 2, 2, 27]) (fun ⟨i, l, m1, k1⟩ ⟨h1, h2, h3, h4, h5⟩ => ?_)
  dsimp only at h1 h2 h3 h4 h5
  refine wb (A2.mk ?_ (A2.mk ?_ (A2.mk ?_ ?_))) <;> intros
  any_goals
    have hl : l.length ≤ 9 := by omega
    refine wq (hS k1 m1 h5 (by rw [h4]; exact hm)) [0, 1, 3] ?_
    rintro r g ⟨s, m2, k2, q1, q2, q3, rfl, rfl⟩
    refine wb ?_ <;> intros
    refine sr_mark ⟨(i + 1, l ++ [s], m2, k2), ⟨by omega, by simp [h2], fun x hx => ?_, by rw [q2, h4], q3⟩, by omega, vm [0, 1, 2, 141, 157]⟩
    rcases List.mem_append.1 hx with hx | hx
    · exact h3 x hx
    · rw [List.mem_singleton.1 hx]; exact q1
  all_goals
    refine wo hR (.own 4 l.length) (m1.og xs k1 ++ [some (smO l)]) [0, 1, 2, 3, 4] [] ?_
    exact ⟨l, m1, k1, by omega, h3, h4, h5, rfl, rfl⟩
def SsZ (xs : List UInt8) (d : Nat) : Prop := ∀ (k : Nat) (m : MS) (n : Nat), k ≤ xs.length → m.held.length + d ≤ 100 → n ≤ 10 → ACall Tryz.prog 83 [.ptr 0 0, .pv (intP d), .pv (intP n)] (m.os xs k) (fun v g => ∃ (l : List Sm) (m' : MS) (k' : Nat), l.length ≤ n ∧ (∀ s ∈ l, SmD d s) ∧ m'.held = m.held ∧ k' ≤ xs.length ∧ v = .pv (.sl (l.map smR)) ∧ g = m'.og xs k')
theorem stmts_fz (xs : List UInt8) (d : Nat) (hS : StC xs d) : SsZ xs d := by
  intro k m n hk hm hn
  refine wz Tryz.func83 (fun _ => []) (h := fun R hR => ?_)
  refine wb ?_ <;> intros
  refine sr_ghostE 7 190 11 (by exact we) ?_
  refine wl (fun t : Nat × List Sm × MS × Nat => [(0, .ptr 0 0), (1, .pv (intP d)), (2, .pv (intP n)), (7, .own 4 t.2.1.length), (8, .pv (intP t.1))]) (fun t => t.2.2.1.og xs t.2.2.2 ++ [some (smO t.2.1)]) (fun t => t.1 ≤ n ∧ t.2.1.length = t.1 ∧ (∀ s ∈ t.2.1, SmD d s) ∧ t.2.2.1.held = m.held ∧ t.2.2.2 ≤ xs.length) (fun t => n - t.1) (0, [], m, k) ⟨Nat.zero_le _, rfl, by simp, rfl, hk⟩ (vm [0, 1, 2, 2, 27]) (fun ⟨i, l, m1, k1⟩ ⟨h1, h2, h3, h4, h5⟩ => ?_)
  dsimp only at h1 h2 h3 h4 h5
  refine wb (A2.mk ?_ (A2.mk ?_ (A2.mk ?_ ?_))) <;> intros
  any_goals
    have hl : l.length ≤ 9 := by omega
    refine wq (hS k1 m1 h5 (by rw [h4]; exact hm)) [0, 1, 3] ?_
    rintro r g ⟨s, m2, k2, q1, q2, q3, rfl, rfl⟩
    refine wb ?_ <;> intros
    refine sr_mark ⟨(i + 1, l ++ [s], m2, k2), ⟨by omega, by simp [h2], fun x hx => ?_, by rw [q2, h4], q3⟩, by omega, vm [0, 1, 2, 141, 157]⟩
    rcases List.mem_append.1 hx with hx | hx
    · exact h3 x hx
    · rw [List.mem_singleton.1 hx]; exact q1
  all_goals
    refine wo hR (.pv (.sl (l.map smR))) (m1.og xs k1) [0, 1, 2, 3] [(4, none)] ?_
    exact ⟨l, m1, k1, by omega, h3, h4, h5, rfl, rfl⟩
end AM

/- The functions that Trace needs: the statements inside a lock. -/
namespace AM
open Go Go.Proofs Mk
set_option linter.unusedVariables false
set_option linter.unusedSimpArgs false
set_option maxRecDepth 20000
theorem block_ok (xs : List UInt8) (hx : xs.length ≤ 1000) (d : Nat) (hS : SsC xs d) (k : Nat) (m : MS) (s : ByteArray) (hk : k ≤ xs.length) (hm : m.held.length + d + 1 ≤ 100) : ACall Tryz.prog 139 [.ptr 0 0, .pv (strP s), .pv (intP d)] (m.os xs k) (fun v g => ∃ (l : List Sm) (m' : MS) (k' : Nat), l.length ≤ 10 ∧ (∀ s ∈ l, SmD d s) ∧ m'.held = m.held ∧ k' ≤ xs.length ∧ v = .own 4 l.length ∧ g = m'.og xs k' ++ [some (smO l)]) := by
  refine wz Tryz.func139 (fun _ => [(4, 8)]) (h := fun R hR => ?_)
  refine wb ?_ <;> intros
  refine wq (next_ok xs k 2 hx hk (by decide) (by decide)) [1] ?_
  rintro r g ⟨rfl, k1, hk1, rfl⟩
  have hn := nxt_lt xs k (n := 2) (by decide)
  refine ws ?_
  refine wq (hS k1 { m with held := m.held ++ [s] } (1 + nxt xs k 2) hk1 (by simp; omega) (by omega)) [0, 1, 67] ?_
  rintro r g ⟨l, m2, k2, q1, q2, q3, q4, rfl, rfl⟩
  obtain ⟨th2, left2, set2, tx2, at2, lo2, held2⟩ := m2
  dsimp only at q3
  subst q3
  refine wb ?_ <;> intros
  have h9 : ((m.held.length : Int) + 1 - 1).toNat = (m.held.map fun s => [strP s]).length := by simp
  refine wo hR (.own 4 l.length) (MS.og ⟨th2, left2, set2, tx2, at2, lo2, m.held⟩ xs k2 ++ [some (smO l)]) [0, 1, 2, 267, 164] [] ?_
  exact ⟨l, ⟨th2, left2, set2, tx2, at2, lo2, m.held⟩, k2, by omega, q2, rfl, q4, rfl, rfl⟩
end AM
