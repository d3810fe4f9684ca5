/- The abstract machine: indexes, lengths, parts, new rows, append. -/
import Derived.Test.YtfbkkgfkhhibfaaGreatAdp
namespace AM
open Go Go.RowKit
set_option linter.unusedVariables false
set_option linter.unusedSimpArgs false
section
variable {P : Program} {o : Oper} {e : Operand → Option AV} {σ : Sto} {lab : Nat}
theorem run_idx {t el : TypeId} {k by' : Nat} (hel : elemT P t = some (el, k, by')) (b q n c : Nat) (ik : IntKind) (i : Int) (w : World) (h0 : 0 ≤ i) (h1 : i < n) :
    (Instr.indexAt t (.slice (some ⟨b, q, none⟩) n c) (.int ik i)).run P w = .ok (.pointer (some ⟨b, q + i.toNat * k, none⟩)) w := by
  obtain ⟨q1, ti, z, q2, q3, q4, _⟩ := elem_parts hel
  simp [Instr.indexAt, run_underlying q1, asIntOf, h0, h1, Go.sizeOf, typeInfo, q2, q4, addOff]
theorem ds_idxL {t el : TypeId} {x y : Operand} {k by' : Nat} {els : List (List PV)} {ik : IntKind} {i : Int} (ho : o.op = .indexAddr t x y) (hel : elemT P t = some (el, k, by')) (hx : e x = some (.pv (.sl els))) (hy : e y = some (.pv (.sc (.int ik i)))) :
    DSound P o e σ lab ⟨0 ≤ i ∧ ∃ row, els[i.toNat]? = some row ∧ row.length = k, fun u => ∃ row, els[i.toNat]? = some row ∧ u = .fp row 0, [], true, []⟩ :=
  .pure rfl fun Ψ loc fr w ρ he hok hd => by
    obtain ⟨h0, row, hi, hk⟩ := hd
    obtain ⟨hy1, _⟩ := rep_sc (he y _ hy)
    have h := he x _ hx
    generalize hq : ρ x = z at h
    have hlt := (List.getElem?_eq_some_iff.1 hi).1
    cases h with
    | pv h => cases h with
      | nil => simp at hi
      | sl f hn hnc hk' hf hr =>
        rename_i b q c n k'
        have hkk : k' = k := (hk' row (List.mem_of_getElem? hi)).symm.trans hk
        subst hkk
        have hc : ∀ j p, row[j]? = some p → cellOf els i.toNat j = some p := fun j p hj => by simp [cellOf, hi, hj]
        exact ⟨.pointer (some ⟨b, q + i.toNat * k' + 0, none⟩), _, by simp [execOp, ho, hq, hy1, run_idx hel b q n c ik i w h0 (by omega)], .fp (f i.toNat) (fun j p hj => by rw [Nat.add_assoc]; exact hf _ j p (hc j p hj)) (fun j p hj => hr _ j p (hc j p hj)), row, hi, rfl⟩
theorem ds_idxO {t el : TypeId} {x y : Operand} {k by' r n ty k' : Nat} {els : List (List PV)} {ik : IntKind} {i : Int} (ho : o.op = .indexAddr t x y) (hel : elemT P t = some (el, k, by')) (hx : e x = some (.own r n)) (hσ : σ r = some (.row ty k' els)) (hk : k' = k) (hn : els.length = n) (hy : e y = some (.pv (.sc (.int ik i)))) :
    DSound P o e σ lab ⟨0 ≤ i ∧ i < n, fun u => u = .rp r k i.toNat 0, [r], true, []⟩ :=
  .pure rfl fun Ψ loc fr w ρ he hok hd => by
    obtain ⟨h0, hi⟩ : 0 ≤ i ∧ i < n := hd
    obtain ⟨hy1, _⟩ := rep_sc (he y _ hy)
    have h := he x _ hx
    generalize hq : ρ x = z at h
    obtain ⟨A, c, h1, h2⟩ : HoldsRow Ψ loc w r ty k' els := hok.ob r _ hσ
    cases h with
    | own hl hnc =>
      rename_i c' A'
      rw [h1] at hl
      injection hl with hl
      injection hl with hl1 hl2
      subst hl1 hl2
      rcases h2 with ⟨_, rfl⟩ | ⟨h0', b, cur, rfl, _⟩
      · omega
      · exact ⟨.pointer (some ⟨b, 0 + i.toNat * k, none⟩), _, by simp [execOp, ho, hq, hy1, run_idx hel b 0 n c ik i w h0 hi], by rw [Nat.zero_add]; exact .rp (off := 0) h1, rfl⟩
theorem ds_idxT {t el : TypeId} {x y : Operand} {k by' n : Nat} {cts : List CT} {ik : IntKind} {i : Int} (ho : o.op = .indexAddr t x y) (hel : elemT P t = some (el, k, by')) (hx : e x = some (.pv (.tr cts n))) (hk : cts.length = k) (hy : e y = some (.pv (.sc (.int ik i)))) :
    DSound P o e σ lab ⟨0 ≤ i ∧ i < n, fun u => u = .tp cts 0, [], true, []⟩ :=
  .pure rfl fun Ψ loc fr w ρ he hok hd => by
    obtain ⟨h0, hi⟩ : 0 ≤ i ∧ i < n := hd
    obtain ⟨hy1, _⟩ := rep_sc (he y _ hy)
    have h := he x _ hx
    generalize hq : ρ x = z at h
    cases h with
    | pv h => cases h with
      | tr0 => omega
      | tr ht h0' hm hnc hle =>
        rename_i b q c m
        have hik : (i.toNat + 1) * cts.length ≤ n * cts.length := Nat.mul_le_mul_right _ (by omega)
        rw [Nat.add_mul, Nat.one_mul] at hik
        exact ⟨.pointer (some ⟨b, q + i.toNat * k + 0, none⟩), _, by simp [execOp, ho, hq, hy1, run_idx hel b q n c ik i w h0 hi], .tp ht h0' (by rw [← hk, Nat.add_mul_mod_self_right]; exact hm) (by rw [← hk]; omega), rfl⟩
theorem ds_idxS {t : TypeId} {x y : Operand} {s : ByteArray} {ik : IntKind} {i : Int} (ho : o.op = .index t x y) (ht : P.underlying t = some .string) (hx : e x = some (.pv (.sc (.string s)))) (hy : e y = some (.pv (.sc (.int ik i)))) :
    DSound P o e σ lab (.chk (0 ≤ i ∧ i < s.size) (.pv (.sc (.int .u8 ((s[i.toNat]?).getD 0).toNat)))) :=
  .pure rfl fun Ψ loc fr w ρ he hok hd => by
    obtain ⟨h0, hi⟩ : 0 ≤ i ∧ i < s.size := hd
    obtain ⟨hy1, _⟩ := rep_sc (he y _ hy)
    obtain ⟨hx1, _⟩ := rep_sc (he x _ hx)
    have hg : s[i.toNat]? = some s[i.toNat] := getElem?_pos s i.toNat (by omega)
    exact ⟨_, _, by simp [execOp, ho, hx1, hy1, Instr.index, asIntOf, run_underlying ht, h0, hg], .pv (.sc rfl), rfl⟩
theorem ds_len {x : Operand} {ats : Array TypeId} {t : TypeId} {n : Nat} (ho : o.op = .call { callee := .builtin .len, args := #[x], argTypes := ats }) (hat : ats = #[t])
    (hx : (∃ els, e x = some (.pv (.sl els)) ∧ els.length = n ∧ (∃ el, P.underlying t = some (.slice el))) ∨ (∃ r, e x = some (.own r n) ∧ (∃ el, P.underlying t = some (.slice el))) ∨ (∃ cts, e x = some (.pv (.tr cts n)) ∧ (∃ el, P.underlying t = some (.slice el))) ∨ (e x = some .emp ∧ n = 0 ∧ (∃ el, P.underlying t = some (.slice el))) ∨ (∃ s, e x = some (.pv (.sc (.string s))) ∧ s.size = n ∧ P.underlying t = some .string)) :
    DSound P o e σ lab (.val (.pv (.sc (.int .i64 n)))) :=
  .pure rfl fun Ψ loc fr w ρ he hok hd => by
    subst hat
    refine ⟨.int .i64 n, _, ?_, .pv (.sc rfl), rfl⟩
    have key : (∃ el, P.underlying t = some (.slice el)) → (∃ A c, ρ x = .slice A n c) → (execOp ρ o).run P w = .ok (.value (.int .i64 n)) w := fun ⟨el, ht⟩ ⟨A, c, hq⟩ => by
      simp [execOp, ho, resolve, invoke, builtin, hq, Builtin.len_, run_underlying ht, goInt]
    rcases hx with ⟨els, h1, h2, ht⟩ | ⟨r, h1, ht⟩ | ⟨cts, h1, ht⟩ | ⟨h1, rfl, ht⟩ | ⟨s, h1, rfl, ht⟩
    · refine key ht ?_
      have h := he x _ h1
      generalize ρ x = z at h
      cases h with
      | pv h => cases h with
        | nil => subst h2; exact ⟨_, _, rfl⟩
        | sl f hn => rw [h2] at hn; subst hn; exact ⟨_, _, rfl⟩
    · refine key ht ?_
      have h := he x _ h1
      generalize ρ x = z at h
      cases h with
      | own hl hnc => exact ⟨_, _, rfl⟩
    · refine key ht ?_
      have h := he x _ h1
      generalize ρ x = z at h
      cases h with
      | pv h => cases h <;> exact ⟨_, _, rfl⟩
    · refine key ht ?_
      have h := he x _ h1
      generalize ρ x = z at h
      cases h with
      | emp => exact ⟨_, _, rfl⟩
    · obtain ⟨hq, _⟩ := rep_sc (he x _ h1)
      simp [execOp, ho, resolve, invoke, builtin, hq, Builtin.len_, run_underlying ht, goInt]
theorem ds_max {x y : Operand} {ats : Array TypeId} {k : IntKind} {a b : Int} (ho : o.op = .call { callee := .builtin .max, args := #[x, y], argTypes := ats }) (hx : e x = some (.pv (.sc (.int k a)))) (hy : e y = some (.pv (.sc (.int k b)))) :
    DSound P o e σ lab (.val (.pv (.sc (.int k (if b > a then b else a))))) :=
  .pure rfl fun Ψ loc fr w ρ he hok hd => by
    obtain ⟨hy1, _⟩ := rep_sc (he y _ hy)
    obtain ⟨hx1, _⟩ := rep_sc (he x _ hx)
    exact ⟨_, _, by simp [execOp, ho, resolve, invoke, builtin, hx1, hy1, Builtin.max_, Builtin.max2], .pv (.sc rfl), rfl⟩
def bnd (e : Operand → Option AV) (x : Option Operand) (d : Int) : Option Int :=
  match x with
  | none => some d
  | some x => match e x with
    | some (.pv (.sc (.int _ i))) => some i
    | _ => none
theorem bnd_run {x : Option Operand} {d i : Int} {Ψ : Psi} {loc : Loc} {ρ : Operand → Value} (he : ∀ x v, e x = some v → RepA Ψ loc v (ρ x)) (h : bnd e x d = some i) : (x = none ∧ i = d) ∨ ∃ y k, x = some y ∧ ρ y = .int k i := by
  unfold bnd at h
  split at h
  · injection h with h; exact .inl ⟨rfl, h.symm⟩
  · rename_i y
    split at h
    · rename_i k j hy
      injection h with h
      subst h
      exact .inr ⟨y, k, rfl, (rep_sc (he y _ hy)).1⟩
    · cases h
theorem run_part {t el : TypeId} {k by' : Nat} (hel : elemT P t = some (el, k, by')) {lo hi : Option Operand} {l h : Int} {ρ : Operand → Value} (A : Option Addr) (n c : Nat) (w : World) (hl : (lo = none ∧ l = 0) ∨ ∃ y k, lo = some y ∧ ρ y = .int k l) (hh : (hi = none ∧ h = n) ∨ ∃ y k, hi = some y ∧ ρ y = .int k h) (h0 : 0 ≤ l) (h1 : l ≤ h) (h2 : h ≤ n) (h3 : n ≤ c) :
    (Instr.sliceAt t (.slice A n c) (lo.map ρ) (hi.map ρ) none).run P w = .ok (.slice (if c = l.toNat then A else A.map (·.add (l.toNat * k))) (h.toNat - l.toNat) (c - l.toNat)) w := by
  obtain ⟨q1, ti, z, q2, q3, q4, _⟩ := elem_parts hel
  have hc : h ≤ c := by omega
  rcases hl with ⟨rfl, rfl⟩ | ⟨y, kl, rfl, hy⟩ <;> rcases hh with ⟨rfl, rfl⟩ | ⟨y', kh, rfl, hy'⟩ <;>
    simp [Instr.sliceAt, Instr.slice, run_underlying q1, Instr.sliceBounds, Instr.sliceBound, asIntOf, Go.sizeOf, typeInfo, q2, q4, *] <;> (repeat' split) <;> first | rfl | omega | (simp_all; done)
end
end AM

/- The abstract machine: parts, new rows, append. -/
namespace AM
open Go Go.RowKit
set_option linter.unusedVariables false
set_option linter.unusedSimpArgs false
section
variable {P : Program} {o : Oper} {e : Operand → Option AV} {σ : Sto} {lab : Nat}
theorem cellOf_part {els : List (List PV)} {l h i j : Nat} {p : PV} (hc : cellOf ((els.take h).drop l) i j = some p) : cellOf els (l + i) j = some p ∧ l + i < h := by
  unfold cellOf at hc ⊢
  rw [List.getElem?_drop, List.getElem?_take] at hc
  split at hc
  · rename_i hlt; exact ⟨hc, hlt⟩
  · cases hc
theorem ds_partL {t el : TypeId} {x : Operand} {lo hi : Option Operand} {k by' : Nat} {els : List (List PV)} {l h : Int} (ho : o.op = .slice t x lo hi none) (hel : elemT P t = some (el, k, by')) (hx : e x = some (.pv (.sl els))) (hl : bnd e lo 0 = some l) (hh : bnd e hi els.length = some h) :
    DSound P o e σ lab (.chk (0 ≤ l ∧ l ≤ h ∧ h ≤ els.length ∧ ∀ row ∈ els, row.length = k) (.pv (.sl ((els.take h.toNat).drop l.toNat)))) :=
  .pure rfl fun Ψ loc fr w ρ he hok hd => by
    obtain ⟨h0, h1, h2, hrow⟩ : 0 ≤ l ∧ l ≤ h ∧ h ≤ els.length ∧ ∀ row ∈ els, row.length = k := hd
    have hx1 := he x _ hx
    have hbl := bnd_run he hl
    have hbh := bnd_run he hh
    generalize hq : ρ x = z at hx1
    have fin : ∀ A n c, z = .slice A n c → n = els.length → n ≤ c → (execOp ρ o).run P w = .ok (.value (.slice (if c = l.toNat then A else A.map (·.add (l.toNat * k))) (h.toNat - l.toNat) (c - l.toNat))) w := fun A n c hz hn hnc => by
      subst hn
      have := run_part hel A els.length c w hbl hbh h0 h1 h2 hnc
      simp [execOp, ho, hq, hz, this]
    have hlen : ((els.take h.toNat).drop l.toNat).length = h.toNat - l.toNat := by simp; omega
    cases hx1 with
    | pv hx1 => cases hx1 with
      | nil hAc =>
        rename_i A c
        have hz : (if c = 0 then A else A.map (·.add 0)) = none → c = 0 := fun h => by
          split at h
          · exact hAc h
          · exact hAc (by simpa using h)
        simp at h2
        have hl0 : l = 0 := by omega
        have hh0 : h = 0 := by omega
        subst hl0 hh0
        exact ⟨_, _, fin A 0 c rfl rfl (Nat.zero_le _), .pv (by simpa using Rep.nil hz), rfl⟩
      | sl f hn hnc hk' hf hr =>
        rename_i b q c n k'
        refine ⟨_, _, fin _ n c rfl hn.symm hnc, .pv ?_, rfl⟩
        by_cases he0 : h.toNat - l.toNat = 0
        · rw [he0, List.eq_nil_of_length_eq_zero (hlen.trans he0)]
          exact .nil (fun h => by split at h <;> simp at h)
        · have hcl : ¬ c = l.toNat := by omega
          rw [if_neg hcl]
          simp only [Option.map_some, addOff]
          have hkk : k' = k := by
            have hlt : 0 < els.length := by omega
            rw [← hk' els[0] (List.getElem_mem hlt)]
            exact hrow _ (List.getElem_mem hlt)
          subst hkk
          refine .sl (fun i j => f (l.toNat + i) j) hlen (by omega) (fun row hm => hrow row (List.mem_of_mem_take (List.mem_of_mem_drop hm))) (fun i j p hc => ?_) (fun i j p hc => hr _ _ _ (cellOf_part hc).1)
          have := hf _ _ _ (cellOf_part hc).1
          rw [← this, Nat.add_mul]
          congr 1
          omega
theorem ds_partO {t el : TypeId} {x : Operand} {hi : Option Operand} {k by' r n ty k' : Nat} {els : List (List PV)} {h : Int} (ho : o.op = .slice t x none hi none) (hel : elemT P t = some (el, k, by')) (hx : e x = some (.own r n)) (hσ : σ r = some (.row ty k' els)) (hn : els.length = n) (hh : bnd e hi n = some h) :
    DSound P o e σ lab ⟨0 ≤ h ∧ h ≤ n, fun u => u = .own lab h.toNat, [], true, [(r, none), (lab, some (.row ty k' (els.take h.toNat)))]⟩ := by
  intro fr Ψ loc w ρ he hok hlab hs hd
  obtain ⟨h0, h2⟩ : 0 ≤ h ∧ h ≤ n := hd
  have hx1 := he x _ hx
  have hbh := bnd_run he hh
  generalize hq : ρ x = z at hx1
  obtain ⟨A, c, h1, h3⟩ : HoldsRow Ψ loc w r ty k' els := hok.ob r _ hσ
  cases hx1 with
  | own hl hnc =>
    rename_i c' A'
    rw [h1] at hl
    injection hl with hl
    injection hl with hl1 hl2
    subst hl1 hl2
    have hrun := run_part hel A n c w (.inl ⟨rfl, rfl⟩) hbh (Int.le_refl 0) h0 h2 hnc
    simp only [Int.toNat_zero, Nat.zero_mul, Nat.sub_zero, Option.map_none] at hrun
    have hA : (if c = 0 then A else A.map (·.add 0)) = A := by
      split
      · rfl
      · cases A <;> simp [Addr.add]
    rw [hA] at hrun
    have hlr : lab ≠ r := fun q => by rw [q, h1] at hlab; cases hlab
    have hle : Loc.le loc (loc.upd lab (A, c)) := Loc.le_upd hlab
    refine ⟨.slice A h.toNat c, w, Ψ, loc.upd lab (A, c), _, .inl ⟨by simp [execOp, ho, hq, hrun], .own Loc.upd_eq (by omega)⟩, rfl, ?_, .refl _, fun l hl => Loc.upd_ne hl, Same.refl _ _⟩
    show Ok fr Ψ _ ((σ.upd r none).upd lab _) w
    have hd1 : Ok fr Ψ (loc.upd lab (A, c)) (σ.upd r none) w := (hok.drop r).locs hle (fun l o e => Loc.upd_ne (fun q => by rw [q, upd_ne _ _ hlr, hs] at e; cases e))
    refine hd1.claim (by rw [upd_ne _ _ hlr]; exact hs) ⟨A, c, Loc.upd_eq, ?_⟩ (fun b hb => ?_)
    · rcases h3 with ⟨rfl, rfl⟩ | ⟨q0, g, cur, rfl, q1, q2, q3, q4, q5, q6⟩
      · exact .inl ⟨by simp, rfl⟩
      · refine .inr ⟨q0, g, cur, rfl, q1, by simp; omega, q3, q4, fun row hm => q5 row (List.mem_of_mem_take hm), fun i j p hc => ?_⟩
        exact q6 i j p (by have := (cellOf_part (l := 0) (by simpa using hc)).1; simpa using this)
    · have hb' : blk loc r = some b := by
        have : blk (loc.upd lab (A, c)) lab = blk loc r := by simp [blk, Loc.upd_eq, h1]
        rw [← this]; exact hb
      have hf := hok.free hσ hb'
      exact ⟨hf.pr, hf.tb, hf.fz, fun l o e q => by
        rw [blk_congr (Loc.upd_ne (fun q => by rw [q, upd_ne _ _ hlr, hs] at e; cases e))] at q
        exact hf.ob l o e q⟩
def ctOf : AV → Option CT
  | .pv (.sc (.int k n)) => if n = 0 then some (.int k) else none
  | .pv (.sc (.bool _)) => some .bool
  | .emp => some (.asc 0)
  | _ => none
def ctsOf : List AV → Option (List CT)
  | [] => some []
  | v :: r => match ctOf v, ctsOf r with
    | some c, some cs => some (c :: cs)
    | _, _ => none
theorem ctsOf_get : ∀ {vs : List AV} {cs : List CT}, ctsOf vs = some cs → cs.length = vs.length ∧ ∀ (j : Nat) c, cs[j]? = some c → ∃ v, vs[j]? = some v ∧ ctOf v = some c
  | [], cs, h => by injection h with h; subst h; exact ⟨rfl, fun j p h => by simp at h⟩
  | v :: r, cs, h => by
    unfold ctsOf at h
    split at h
    · rename_i p qs h1 h2
      injection h with h
      subst h
      have ih := ctsOf_get h2
      refine ⟨by simp [ih.1], fun j p' hj => ?_⟩
      cases j with
      | zero => simp at hj; subst hj; exact ⟨v, rfl, h1⟩
      | succ j => simpa using ih.2 j p' (by simpa using hj)
    · cases h
theorem ctOf_ok {Ψ : Psi} {v : Value} {c : CT} (h1 : v.oneCell' = true) (h : ctOf (ofC v) = some c) : ∃ p, c.ok p ∧ Rep Ψ p v := by
  unfold ofC at h
  split at h
  · injection h with h; subst h; exact ⟨.sl [], ⟨[], rfl, by simp, by simp⟩, .nil (fun _ => rfl)⟩
  · rename_i hno
    unfold ctOf at h
    split at h
    · rename_i k n heq
      injection heq with heq
      injection heq with heq
      subst heq
      split at h
      · rename_i h0
        injection h with h
        subst h h0
        exact ⟨_, ⟨0, by cases k <;> rfl, rfl⟩, .sc rfl⟩
      · cases h
    · rename_i b heq
      injection heq with heq
      injection heq with heq
      subst heq
      injection h with h
      subst h
      exact ⟨_, ⟨b, rfl⟩, .sc rfl⟩
    · rename_i heq; cases heq
    · cases h
theorem ds_make {t el : TypeId} {x y : Operand} {k by' : Nat} {zs : List AV} {cts : List CT} {ik ik' : IntKind} {n : Int} (ho : o.op = .makeSlice t x y) (hel : elemT P t = some (el, k, by')) (hz : zeroT P el = some zs) (hc : ctsOf zs = some cts) (hx : e x = some (.pv (.sc (.int ik n)))) (hy : e y = some (.pv (.sc (.int ik' n)))) :
    DSound P o e σ lab (.chk (0 ≤ n ∧ n ≤ 100000) (.pv (.tr cts n.toNat))) := by
  intro fr Ψ loc w ρ he hok hlab hs hd
  obtain ⟨h0, hn⟩ : 0 ≤ n ∧ n ≤ 100000 := hd
  obtain ⟨q1, i, z, q2, q3, q4, q5, q6, q7, q8⟩ := elem_parts hel
  obtain ⟨hx1, _⟩ := rep_sc (he x _ hx)
  obtain ⟨hy1, _⟩ := rep_sc (he y _ hy)
  obtain ⟨i', z', r1, r2, r3, rfl⟩ := zero_parts hz
  rw [q2] at r1
  injection r1 with r1
  subst r1
  rw [q3] at r2
  injection r2 with r2
  subst r2
  obtain ⟨c1, c2⟩ := ctsOf_get hc
  have hck : cts.length = k := by rw [c1]; simpa using q6
  have hb : (i.bytes : Int) * n ≤ 281474976710656 := by
    rw [q5]
    have : (by' : Int) * n ≤ 1000 * 100000 := Int.mul_le_mul (by omega) hn h0 (by omega)
    omega
  have hrun := run_make (P := P) w t el i z q1 q2 q3 ik ik' n n h0 (Int.le_refl _) hb (by omega)
  have hsz : (madeCells z.cells (n.toNat * i.size)).size = n.toNat * k := by rw [size_madeCells, q4]
  have hfree := hok.new (Nat.le_refl w.heap.size)
  have hok1 := hok.chg (w' := w.alloc (.cells (madeCells z.cells (n.toNat * i.size)) el)) (Same.of (World.grownBy_alloc w _ none) (fun k e => nomatch e))
  have hcne : cts ≠ [] := fun h => by rw [h] at hck; simp at hck; omega
  refine ⟨_, w.alloc (.cells (madeCells z.cells (n.toNat * i.size)) el), Ψ.addTb w.heap.size (cts, (madeCells z.cells (n.toNat * i.size)).size), loc, _, .inl ⟨by simp [execOp, ho, hx1, hy1, hrun]; rfl, .pv (.tr (m := (madeCells z.cells (n.toNat * i.size)).size) (by simp [Psi.addTb]) hcne (Nat.zero_mod _) (Nat.le_refl _) (by rw [hsz, hck]; omega))⟩, rfl, ?_, hfree.le_tb _, fun _ _ => rfl, Same.of (World.grownBy_alloc w _ none) (fun k e => nomatch e)⟩
  refine hok1.typed hfree (Nat.le_refl _) (heap_alloc_new w _) (fun q ct hq hct => ?_)
  rw [hck] at hct
  obtain ⟨v, s1, s2⟩ := c2 _ ct hct
  rw [List.getElem?_map, Array.getElem?_toList] at s1
  cases hv : z.cells[q % k]? with
  | none => simp [hv] at s1
  | some u =>
    simp [hv] at s1
    subst s1
    have hu := (Array.all_eq_true_iff_forall_mem.1 r3) u (Array.mem_of_getElem? hv)
    obtain ⟨p, t1, t2⟩ := ctOf_ok (Ψ := Ψ) hu s2
    refine ⟨p, u, ?_, t1, t2⟩
    have hq' : q < n.toNat * i.size := by rw [size_madeCells] at hq; exact hq
    have hm : (madeCells z.cells (n.toNat * i.size))[q]? = some (z.cells[q % z.cells.size]!) := by simp [madeCells, hq']
    rw [hm, q6]
    simp [getElem!_def, hv]
end
end AM
