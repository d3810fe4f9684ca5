/- The abstract machine: structs and slices that are built. -/
import Derived.Test.YtaiaoiochbpmfaaGreatAds
namespace AM
open Go Go.RowKit
set_option linter.unusedVariables false
set_option linter.unusedSimpArgs false
theorem fold_repl : ∀ (xs : List Value) (off k : Nat) (cs : Array Value), off + k + xs.length ≤ cs.size → (xs.zipIdx k).foldl (fun cs (c : Value × Nat) => cs.setIfInBounds (off + c.2) c.1) cs = (repl cs.toList (off + k) xs).toArray
  | [], off, k, cs, h => by simp [repl]
  | x :: r, off, k, cs, h => by
    simp only [List.zipIdx_cons, List.foldl_cons]
    rw [fold_repl r off (k + 1) _ (by simp at h ⊢; omega)]
    simp only [List.length_cons] at h
    apply Array.ext_getElem?
    intro j
    rw [List.getElem?_toArray, List.getElem?_toArray, repl_get (by simp; omega), repl_get (by simp; omega)]
    simp only [List.length_cons, Array.toList_setIfInBounds, List.getElem?_set, Array.length_toList]
    by_cases h1 : j = off + k
    · subst h1
      rw [if_neg (by omega), if_pos rfl, if_pos (by omega), if_pos (by omega)]
      simp
    · by_cases h2 : off + k ≤ j ∧ j < off + k + (r.length + 1)
      · rw [if_pos (by omega), if_pos h2, show j - (off + k) = (j - (off + (k + 1))) + 1 by omega, List.getElem?_cons_succ]
      · rw [if_neg (by omega), if_neg h2, if_neg (by omega)]
def fillA (place : Nat → Option (Nat × Nat)) (cells : List AV) : List (Nat × AV) → Option (List AV)
  | [] => some cells
  | (i, v) :: r =>
    match place i with
    | none => none
    | some (off, size) => if (vcells v).length = size ∧ off + size ≤ cells.length ∧ (vcells v).all isCell = true then fillA place (repl cells off (vcells v)) r else none
def CellsAre (Ψ : Psi) (loc : Loc) (cs : List AV) (xs : Array Value) : Prop := xs.size = cs.length ∧ ∀ (j : Nat) u, cs[j]? = some u → ∃ y, xs[j]? = some y ∧ y.oneCell' = true ∧ RepA Ψ loc u y
theorem repl_are {Ψ : Psi} {loc : Loc} {cs vs : List AV} {xs ys : Array Value} {off : Nat} (h : CellsAre Ψ loc cs xs) (hv : CellsAre Ψ loc vs ys) (hle : off + vs.length ≤ cs.length) : CellsAre Ψ loc (repl cs off vs) (repl xs.toList off ys.toList).toArray := by
  have hy : ys.toList.length = vs.length := by simpa using hv.1
  have hx : xs.toList.length = cs.length := by simpa using h.1
  refine ⟨by simp only [List.size_toArray]; rw [repl_len (by omega), repl_len hle]; exact hx, fun j u hu => ?_⟩
  rw [repl_get hle] at hu
  rw [List.getElem?_toArray, repl_get (by omega), hy]
  split at hu
  · rename_i hj
    rw [if_pos hj, Array.getElem?_toList]
    exact hv.2 _ u hu
  · rename_i hj
    rw [if_neg hj, Array.getElem?_toList]
    exact h.2 _ u hu
theorem fill_are {Ψ : Psi} {loc : Loc} {place : Nat → Option (Nat × Nat)} : ∀ (ps : List (Nat × AV)) (qs : List (Nat × Value)) (cs cs' : List AV) (xs : Array Value), fillA place cs ps = some cs' → CellsAre Ψ loc cs xs → ps.length = qs.length → (∀ (j : Nat) i v, ps[j]? = some (i, v) → ∃ x, qs[j]? = some (i, x) ∧ RepA Ψ loc v x) →
    ∃ xs', Instr.fill place xs qs = some xs' ∧ CellsAre Ψ loc cs' xs'
  | [], qs, cs, cs', xs, h, hc, hl, hr => by
    have : qs = [] := List.eq_nil_of_length_eq_zero hl.symm
    subst this
    injection h with h
    subst h
    exact ⟨xs, rfl, hc⟩
  | (i, v) :: ps, qs, cs, cs', xs, h, hc, hl, hr => by
    obtain ⟨x, q1, q2⟩ := hr 0 i v rfl
    cases qs with
    | nil => simp at q1
    | cons q qs =>
      simp at q1
      subst q1
      unfold fillA at h
      unfold Instr.fill
      cases hp : place i with
      | none => simp [hp] at h
      | some w =>
        obtain ⟨off, size⟩ := w
        simp only [hp] at h ⊢
        split at h
        · rename_i hcond
          obtain ⟨h1, h2, h3⟩ := hcond
          obtain ⟨c1, c2⟩ := cells_of q2 h3
          have hfit : off + x.cells.size ≤ xs.size := by rw [c1, hc.1, h1]; exact h2
          have hno : (x.cells.size ≠ size || decide (off + x.cells.size > xs.size)) = false := by
            simp only [Bool.or_eq_false_iff, decide_eq_false_iff_not, ne_eq]
            refine ⟨by simp [c1, h1], by omega⟩
          rw [hno]
          simp only [Bool.false_eq_true, if_false]
          have hfold := fold_repl x.cells.toList off 0 xs (by simpa using hfit)
          simp only [Nat.add_zero] at hfold
          rw [show (Array.foldl (fun cs x => match x with | (c, j) => cs.setIfInBounds (off + j) c) xs x.cells.zipIdx) = (x.cells.toList.zipIdx 0).foldl (fun cs (c : Value × Nat) => cs.setIfInBounds (off + c.2) c.1) xs from by rw [← Array.foldl_toList, Array.toList_zipIdx], hfold]
          exact fill_are ps qs _ cs' _ h (repl_are hc ⟨c1, c2⟩ (by omega)) (by simpa using hl) (fun j i' v' hj => by simpa using hr (j + 1) i' v' (by simpa using hj))
        · cases h
def placesT (P : Program) (t : TypeId) : Option (List (Nat × Nat)) :=
  match P.underlying t with
  | some (.struct fields) => fields.toList.mapM (fun f => (P.info? f.type).map fun i => (f.offset, i.size))
  | _ => none
def evs (e : Operand → Option AV) : List (Nat × Operand) → Option (List (Nat × AV))
  | [] => some []
  | (i, x) :: r => match e x, evs e r with
    | some v, some l => some ((i, v) :: l)
    | _, _ => none
theorem evs_get {e : Operand → Option AV} {Ψ : Psi} {loc : Loc} {ρ : Operand → Value} (he : ∀ x v, e x = some v → RepA Ψ loc v (ρ x)) : ∀ (ps : List (Nat × Operand)) (qs : List (Nat × AV)), evs e ps = some qs → qs.length = (ps.map fun (i, x) => (i, ρ x)).length ∧ ∀ (j : Nat) i v, qs[j]? = some (i, v) → ∃ x, (ps.map fun (i, x) => (i, ρ x))[j]? = some (i, x) ∧ RepA Ψ loc v x
  | [], qs, h => by injection h with h; subst h; exact ⟨rfl, fun j i v h => by simp at h⟩
  | (i, x) :: r, qs, h => by
    unfold evs at h
    split at h
    · rename_i v l h1 h2
      injection h with h
      subst h
      have ih := evs_get he r l h2
      refine ⟨by simpa using ih.1, fun j i' v' hj => ?_⟩
      cases j with
      | zero => simp at hj; obtain ⟨rfl, rfl⟩ := hj; exact ⟨ρ x, rfl, he x v h1⟩
      | succ j => simpa using ih.2 j i' v' (by simpa using hj)
    · cases h
theorem agg_are {Ψ : Psi} {loc : Loc} {cs : List AV} {xs : Array Value} (h : CellsAre Ψ loc cs xs) : RepA Ψ loc (.agg cs) (.agg xs) := by
  have hf : ∀ j, ∃ x, j < cs.length → ∃ u, cs[j]? = some u ∧ xs[j]? = some x ∧ RepA Ψ loc u x := fun j => by
    by_cases hj : j < cs.length
    · obtain ⟨y, q1, _, q3⟩ := h.2 j _ (List.getElem?_eq_getElem hj)
      exact ⟨y, fun _ => ⟨_, List.getElem?_eq_getElem hj, q1, q3⟩⟩
    · exact ⟨undef, fun h => absurd h hj⟩
  refine .agg (fun j => (hf j).choose) h.1 (fun j hj => ?_) (fun j u hu => ?_)
  · obtain ⟨u, _, q, _⟩ := (hf j).choose_spec hj
    exact q
  · obtain ⟨u', q1, _, q⟩ := (hf j).choose_spec (List.getElem?_eq_some_iff.1 hu).1
    rw [hu] at q1
    injection q1 with q1
    rw [q1]
    exact q
section
variable {P : Program} {o : Oper} {e : Operand → Option AV} {σ : Sto} {lab : Nat}
theorem ds_build {t : TypeId} {parts : Array (Nat × Operand)} {zs cs : List AV} {pl : List (Nat × Nat)} {ps : List (Nat × AV)} (ho : o.op = .build t parts) (hz : zeroT P t = some zs) (hpl : placesT P t = some pl) (hp : evs e parts.toList = some ps) (hf : fillA (pl[·]?) zs ps = some cs) :
    DSound P o e σ lab (.val (.agg cs)) :=
  .pure rfl fun Ψ loc fr w ρ he hok hd => by
    obtain ⟨i, z, h1, h2, h3, rfl⟩ := zero_parts hz
    obtain ⟨l1, l2⟩ := evs_get he _ _ hp
    have hz0 : CellsAre Ψ loc (z.cells.toList.map ofC) z.cells := ⟨by simp, fun j u hu => by
      rw [List.getElem?_map, Array.getElem?_toList] at hu
      cases hj : z.cells[j]? with
      | none => simp [hj] at hu
      | some y =>
        simp [hj] at hu
        subst hu
        have := (Array.all_eq_true_iff_forall_mem.1 h3) y (Array.mem_of_getElem? hj)
        exact ⟨y, rfl, this, ofC_rep this⟩⟩
    obtain ⟨xs', r1, r2⟩ := fill_are ps _ _ cs z.cells hf hz0 l1 l2
    refine ⟨.agg xs', _, ?_, agg_are r2, rfl⟩
    have hb : P.built t ((parts.map fun (i, x) => (i, ρ x)).toList) = some xs' := by
      unfold placesT at hpl
      split at hpl
      · rename_i fields hu
        unfold Program.built
        simp only [h1, hu, h2, hpl]
        rw [Array.toList_map]
        simp only [List.getElem?_toArray]
        exact r1
      · cases hpl
    have := run_build w t _ _ hb
    simp [execOp, ho, this]
def rowsOf (e : Operand → Option AV) (k : Nat) : Nat → List (Nat × Operand) → Option (List (List PV))
  | _, [] => some []
  | m, (i, x) :: r => if i = m then
      match (e x).bind fun v => toPs (vcells v), rowsOf e k (m + 1) r with
      | some ps, some rs => if ps.length = k then some (ps :: rs) else none
      | _, _ => none
    else none
theorem fill_rows {Ψ : Psi} {loc : Loc} {ρ : Operand → Value} (he : ∀ x v, e x = some v → RepA Ψ loc v (ρ x)) {k n : Nat} : ∀ (ps : List (Nat × Operand)) (m : Nat) (rows : List (List PV)) (xs : Array Value), rowsOf e k m ps = some rows → m + ps.length = n → xs.size = n * k →
    ∃ xs', Instr.fill (fun i => some (i * k, k)) xs (ps.map fun (i, x) => (i, ρ x)) = some xs' ∧ xs'.size = n * k ∧ rows.length = ps.length ∧ (∀ row ∈ rows, row.length = k) ∧ (∀ q, q < m * k → xs'[q]? = xs[q]?) ∧ ∀ i j p, cellOf rows i j = some p → ∃ y, xs'[(m + i) * k + j]? = some y ∧ Rep Ψ p y
  | [], m, rows, xs, h, hm, hs => by
    injection h with h
    subst h
    exact ⟨xs, rfl, hs, rfl, (fun _ h => by cases h), fun _ _ => rfl, fun i j p h => by simp [cellOf] at h⟩
  | (i, x) :: r, m, rows, xs, h, hm, hs => by
    unfold rowsOf at h
    split at h
    · rename_i him
      subst him
      split at h
      · rename_i qs rs h1 h2
        split at h
        · rename_i hk
          injection h with h
          subst h
          cases hev : e x with
          | none => simp [hev] at h1
          | some v =>
            simp only [hev, Option.bind_some] at h1
            have hcell : (vcells v).all isCell = true := by
              rw [List.all_eq_true]
              intro u hu
              obtain ⟨j, hj⟩ := List.mem_iff_getElem?.1 hu
              have hl2 := (toPs_get h1).1
              obtain ⟨u', q1, q2⟩ := (toPs_get h1).2 j (qs[j]'(by have := (List.getElem?_eq_some_iff.1 hj).1; omega)) (List.getElem?_eq_getElem _)
              rw [hj] at q1
              injection q1 with q1
              subst q1
              cases u <;> first | rfl | cases q2
            obtain ⟨c1, c2⟩ := cells_of (he x v hev) hcell
            have hck : (ρ x).cells.size = k := by rw [c1, ← (toPs_get h1).1, hk]
            simp only [List.length_cons] at hm
            have hle : i * k + k ≤ xs.size := by
              rw [hs]
              have := Nat.mul_le_mul_right k (show i + 1 ≤ n by omega)
              rw [Nat.add_mul, Nat.one_mul] at this
              exact this
            obtain ⟨xs', f1, f2, f3, f4, f5, f6⟩ := fill_rows (n := n) he r (i + 1) rs (repl xs.toList (i * k) (ρ x).cells.toList).toArray h2 (by omega) (by
              simp only [List.size_toArray]
              rw [repl_len (by simp [hck]; exact hle)]
              simpa using hs)
            have hget : ∀ q, (repl xs.toList (i * k) (ρ x).cells.toList).toArray[q]? = if i * k ≤ q ∧ q < i * k + k then (ρ x).cells[q - i * k]? else xs[q]? := fun q => by
              rw [List.getElem?_toArray, repl_get (by simp [hck]; exact hle)]
              simp only [Array.length_toList, hck, Array.getElem?_toList]
            refine ⟨xs', ?_, f2, by simp [f3], fun row hrow => ?_, fun q hq => ?_, fun i' j p hp => ?_⟩
            · simp only [List.map_cons]
              unfold Instr.fill
              dsimp only
              have hno : ((ρ x).cells.size ≠ k || decide (i * k + (ρ x).cells.size > xs.size)) = false := by
                simp only [Bool.or_eq_false_iff, decide_eq_false_iff_not, ne_eq]
                refine ⟨by simp [hck], by omega⟩
              rw [hno]
              simp only [Bool.false_eq_true, if_false]
              have hfold := fold_repl (ρ x).cells.toList (i * k) 0 xs (by simp [hck]; exact hle)
              simp only [Nat.add_zero] at hfold
              rw [show (Array.foldl (fun cs x => match x with | (c, j) => cs.setIfInBounds (i * k + j) c) xs (ρ x).cells.zipIdx) = ((ρ x).cells.toList.zipIdx 0).foldl (fun cs (c : Value × Nat) => cs.setIfInBounds (i * k + c.2) c.1) xs from by rw [← Array.foldl_toList, Array.toList_zipIdx], hfold]
              exact f1
            · rcases List.mem_cons.1 hrow with rfl | hrow
              · exact hk
              · exact f4 row hrow
            · rw [f5 q (by rw [Nat.add_mul, Nat.one_mul]; omega), hget, if_neg (by omega)]
            · cases i' with
              | zero =>
                simp [cellOf] at hp
                have hj : j < k := by rw [← hk]; exact (List.getElem?_eq_some_iff.1 hp).1
                obtain ⟨u, s1, s2⟩ := (toPs_get h1).2 j p hp
                obtain ⟨y, t1, _, t3⟩ := c2 j u s1
                refine ⟨y, ?_, toP_rep t3 s2⟩
                rw [Nat.add_zero, f5 _ (by rw [Nat.add_mul, Nat.one_mul]; omega), hget, if_pos (by omega), show i * k + j - i * k = j by omega]
                exact t1
              | succ i' =>
                obtain ⟨y, t1, t2⟩ := f6 i' j p (by simpa [cellOf] using hp)
                exact ⟨y, by rw [show i + (i' + 1) = i + 1 + i' by omega]; exact t1, t2⟩
        · cases h
      · cases h
    · cases h
theorem newFz {fr : Fr} {Ψ : Psi} {loc : Loc} {w : World} (hok : Ok fr Ψ loc σ w) (xs : Array Value) (ty : TypeId) : Ok fr (Ψ.addFz w.heap.size xs) loc σ (w.alloc (.cells xs ty)) ∧ Ψ.le (Ψ.addFz w.heap.size xs) := by
  have hf := hok.new (Nat.le_refl _)
  exact ⟨(hok.chg (w' := w.alloc (.cells xs ty)) (Same.of (World.grownBy_alloc w _ none) (fun k e => nomatch e))).freeze hf (heap_alloc_new w _), hf.le_fz xs⟩
theorem ds_buildSlice {t el : TypeId} {n k by' : Nat} {parts : Array (Nat × Operand)} {rows : List (List PV)} (ho : o.op = .buildSlice t n parts) (hel : elemT P t = some (el, k, by')) (hp : rowsOf e k 0 parts.toList = some rows) (hn : parts.toList.length = n) (h0 : 0 < n) (hsm : n * k ≤ 2 ^ 24) :
    DSound P o e σ lab (.val (.pv (.sl rows))) := by
  intro fr Ψ loc w ρ he hok hlab hs hd
  obtain ⟨h1, i, z, h2, h3, h4, h5, h6, h7, h8⟩ := elem_parts hel
  subst h4
  obtain ⟨xs', f1, f2, f3, f4, _, f6⟩ := fill_rows (n := n) he parts.toList 0 rows ((Array.range (n * i.size)).map (z.cells[· % z.cells.size]!)) hp (by omega) (by simp)
  have hpos : ¬ n * i.size = 0 := by
    intro h
    rcases Nat.mul_eq_zero.1 h with h | h <;> omega
  have hrun := run_buildSlice w t el n (parts.map fun (i, x) => (i, ρ x)) xs' i z h1 h2 h3 (by omega) hpos (by rw [Array.toList_map]; exact f1)
  obtain ⟨g1, g2⟩ := newFz hok xs' el
  have hF : ∀ i' j, ∃ y, ∀ p, cellOf rows i' j = some p → xs'[i' * i.size + j]? = some y ∧ Rep Ψ p y := fun i' j => by
    cases hc : cellOf rows i' j with
    | none => exact ⟨undef, fun p h => by cases h⟩
    | some p0 =>
      obtain ⟨y, q1, q2⟩ := f6 i' j p0 hc
      exact ⟨y, fun p h => by injection h with h; subst h; exact ⟨by rw [Nat.zero_add] at q1; exact q1, q2⟩⟩
  refine ⟨.slice (some ⟨w.heap.size, 0, none⟩) n n, w.alloc (.cells xs' el), _, loc, _, .inl ⟨by simp [execOp, ho, hrun], .pv (.sl (k := i.size) (fun a b => (hF a b).choose) (by omega) (Nat.le_refl _) f4 (fun i' j p hc => ?_) (fun i' j p hc => ?_))⟩, rfl, g1, g2, fun _ _ => rfl, Same.of (World.grownBy_alloc w _ none) (fun k e => nomatch e)⟩
  · have := ((hF i' j).choose_spec p hc).1
    show (if w.heap.size = w.heap.size then xs'[0 + (i' * i.size + j)]? else _) = _
    rw [if_pos rfl, Nat.zero_add]
    exact this
  · exact ((hF i' j).choose_spec p hc).2.mono g2
theorem ds_buildSlice0 {t el : TypeId} {k by' : Nat} {parts : Array (Nat × Operand)} (ho : o.op = .buildSlice t 0 parts) (hel : elemT P t = some (el, k, by')) (hp : parts = #[]) :
    DSound P o e σ lab (.val .emp) := by
  intro fr Ψ loc w ρ he hok hlab hs hd
  obtain ⟨h1, i, z, h2, h3, h4, h5, h6, h7, h8⟩ := elem_parts hel
  refine ⟨.slice (some ⟨w.heap.size, 0, none⟩) 0 0, w.alloc (.cells #[] el), Ψ, loc, _, .inl ⟨?_, .emp⟩, rfl, hok.chg (Same.of (World.grownBy_alloc w _ none) (fun k e => nomatch e)), .refl _, fun _ _ => rfl, Same.of (World.grownBy_alloc w _ none) (fun k e => nomatch e)⟩
  simp [execOp, ho, hp, Instr.buildSlice, run_underlying h1, Go.sizeOf, typeInfo, h2, Instr.fill, newRow]
  congr 2
  apply Array.eq_empty_of_size_eq_zero
  simp
end
end AM
