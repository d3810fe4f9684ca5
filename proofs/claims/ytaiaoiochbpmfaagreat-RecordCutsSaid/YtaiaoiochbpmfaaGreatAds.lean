/- The abstract machine: stores, boxes. -/
import Derived.Test.YtaiaoiochbpmfaaGreatAdl
namespace AM
open Go Go.RowKit
set_option linter.unusedVariables false
set_option linter.unusedSimpArgs false
def toP : AV → Option PV
  | .pv p => some p
  | .emp => some (.sl [])
  | _ => none
def toPs : List AV → Option (List PV)
  | [] => some []
  | v :: r => match toP v, toPs r with
    | some p, some ps => some (p :: ps)
    | _, _ => none
theorem toP_rep {Ψ : Psi} {loc : Loc} {v : AV} {p : PV} {x : Value} (h : RepA Ψ loc v x) (hp : toP v = some p) : Rep Ψ p x := by
  cases h <;> first
    | (cases hp; done)
    | (injection hp with hp; subst hp; first | assumption | exact .nil)
theorem toPs_get : ∀ {vs : List AV} {ps : List PV}, toPs vs = some ps → ps.length = vs.length ∧ ∀ (j : Nat) p, ps[j]? = some p → ∃ v, vs[j]? = some v ∧ toP v = some p
  | [], ps, h => by injection h with h; subst h; exact ⟨rfl, fun j p h => by simp at h⟩
  | v :: r, ps, h => by
    unfold toPs at h
    split at h
    · rename_i p qs h1 h2
      injection h with h
      subst h
      have ih := toPs_get h2
      refine ⟨by simp [ih.1], fun j p' hj => ?_⟩
      cases j with
      | zero => simp at hj; subst hj; exact ⟨v, rfl, h1⟩
      | succ j => simpa using ih.2 j p' (by simpa using hj)
    · cases h
theorem cells_of {Ψ : Psi} {loc : Loc} {v : AV} {x : Value} (h : RepA Ψ loc v x) (hc : (vcells v).all isCell = true) : x.cells.size = (vcells v).length ∧ ∀ (j : Nat) u, (vcells v)[j]? = some u → ∃ y, x.cells[j]? = some y ∧ y.oneCell' = true ∧ RepA Ψ loc u y := by
  by_cases hv : isCell v = true
  · have h1 := h.one hv
    have h2 : vcells v = [v] := by cases v <;> first | rfl | cases hv
    have h3 : x.cells = #[x] := by cases x <;> first | rfl | cases h1
    rw [h2, h3]
    refine ⟨rfl, fun j u hu => ?_⟩
    cases j with
    | zero => simp at hu; subst hu; exact ⟨x, rfl, h1, h⟩
    | succ j => simp at hu
  · cases h with
    | agg f hs hx hr =>
      refine ⟨hs, fun j u hu => ⟨f j, hx j (List.getElem?_eq_some_iff.1 hu).1, ?_, hr j u hu⟩⟩
      exact (hr j u hu).one (List.all_eq_true.1 hc u (List.mem_of_getElem? hu))
    | tup f hs hx hr => simp [vcells, isCell] at hc
    | _ => exact absurd rfl hv
section
variable {P : Program} {o : Oper} {e : Operand → Option AV} {σ : Sto} {lab : Nat}
theorem storeVar_at {t : TypeId} {g : Bool} {k b off : Nat} {arr : Array Value} {ty : TypeId} {w : World} {x : Value} (hl : lay P t = some (g, k)) (hh : w.heap[b]? = some (.cells arr ty (0, 0))) (hk : x.cells.size = k) (hle : off + k ≤ arr.size) (h1 : ∀ y ∈ x.cells.toList, y.oneCell' = true) :
    (Instr.storeAt t (.pointer (some ⟨b, off, none⟩)) x).run P w = .ok () (w.setRow b (repl arr.toList off x.cells.toList).toArray) := by
  obtain ⟨d, i, q1, q2, q3, q4⟩ := lay_parts hl
  have hs := run_storeCells_at (P := P) b off ty x.cells.toList 0 arr w hh (by simp [hk]; omega) h1
  simp only [Nat.add_zero] at hs
  simp [Instr.storeAt, Instr.sureAddr, storeVar, Go.sizeOf, typeInfo, q2, q4, hk, hs, repl]
theorem blk_some {loc : Loc} {l b c : Nat} (h : loc l = some (some ⟨b, 0, none⟩, c + 1)) : blk loc l = some b := by simp [blk, h]
theorem upd_upd (σ : Sto) (l : Nat) (a b : Option Obj) : (σ.upd l a).upd l b = σ.upd l b := by
  funext r
  unfold Sto.upd
  split <;> rfl
theorem upd_eq (σ : Sto) (l : Nat) (a : Option Obj) : (σ.upd l a) l = a := by simp [Sto.upd]
theorem upd_ne (σ : Sto) {l r : Nat} (a : Option Obj) (h : r ≠ l) : (σ.upd l a) r = σ r := by simp [Sto.upd, h]
theorem ds_storeP {t : TypeId} {x y : Operand} {g : Bool} {k l off : Nat} {cs : List AV} {v : AV} (ho : o.op = .store t x y) (hdst : o.dst = none) (hl : lay P t = some (g, k)) (hx : e x = some (.ptr l off)) (hy : e y = some v) (hσ : σ l = some (.box cs))
    (hk : (vcells v).length = k) (hc : (vcells v).all isCell = true) (hle : off + k ≤ cs.length) :
    DSound P o e σ lab ⟨True, fun u => u = .emp, [], true, [(l, some (.box (repl cs off (vcells v))))]⟩ := by
  intro fr Ψ loc w ρ he hok hlab _ hd
  have h := he x _ hx
  generalize hq : ρ x = z at h
  obtain ⟨b, c, arr, ty, h1, hh, hs, hr⟩ : HoldsBox Ψ loc w l cs := hok.ob l _ hσ
  obtain ⟨c1, c2⟩ := cells_of (he y v hy) hc
  cases h with
  | ptr hp =>
    rename_i b' c'
    rw [h1] at hp
    injection hp with hp
    injection hp with hp h2
    injection hp with hp
    injection hp with hp
    subst hp
    have hrun := storeVar_at (P := P) (t := t) (x := ρ y) hl hh (c1.trans hk) (off := off) (by omega) (fun u hu => by
      obtain ⟨j, hj⟩ := List.mem_iff_getElem?.1 hu
      have hlt : j < (vcells v).length := by
        have := (List.getElem?_eq_some_iff.1 hj).1
        rw [Array.length_toList, c1] at this
        exact this
      obtain ⟨y', q1, q2, _⟩ := c2 j _ (List.getElem?_eq_getElem hlt)
      rw [Array.getElem?_toList, q1] at hj
      injection hj with hj
      rw [← hj]
      exact q2)
    have hb := blk_some h1
    have hok1 := (hok.drop l).chg (Same.row (K := Free fr Ψ loc (σ.upd l none)) (hok.free hσ hb) (repl arr.toList off (ρ y).cells.toList).toArray)
    refine ⟨undef, w.setRow b (repl arr.toList off (ρ y).cells.toList).toArray, Ψ, loc, .emp, .inr ⟨by simp [execOp, ho, hq, hrun], hdst⟩, rfl, ?_, .refl _, fun _ _ => rfl, ?_⟩
    · show Ok fr Ψ loc (σ.upd l _) _
      rw [← upd_upd σ l none]
      have hsz : off + (ρ y).cells.toList.length ≤ arr.toList.length := by simp [c1, hs]; omega
      refine hok1.claim (upd_eq _ _ _) ⟨b, c, _, ty, h1, setRow_heap w b arr _ ty _ hh, ?_, fun j u hu => ?_⟩ (fun b' hb' => by rw [hb] at hb'; injection hb' with hb'; rw [← hb']; exact hok.free hσ hb)
      · simp only [List.size_toArray]
        rw [repl_len hsz, repl_len (by omega)]
        simpa using hs
      · rw [repl_get (by omega)] at hu
        have hg := repl_get hsz j
        rw [Array.length_toList, c1] at hg
        split at hu
        · rename_i hj
          obtain ⟨y', q1, q2, q3⟩ := c2 _ u hu
          exact ⟨y', by rw [List.getElem?_toArray, hg, if_pos hj, Array.getElem?_toList]; exact q1, q2, q3⟩
        · rename_i hj
          obtain ⟨y', q1, q2, q3⟩ := hr j u hu
          exact ⟨y', by rw [List.getElem?_toArray, hg, if_neg hj, Array.getElem?_toList]; exact q1, q2, q3⟩
    · exact Same.row (K := fun k => ¬ fr.pr k) (hok.ow l _ b hσ hb).1 _
theorem ok_newBox {fr : Fr} {Ψ : Psi} {loc : Loc} {w : World} (hok : Ok fr Ψ loc σ w) (hlab : loc lab = none) (hs : σ lab = none) {cs : List AV} {xs : Array Value} {ty : TypeId} (hn : xs.size = cs.length) (hr : ∀ (j : Nat) u, cs[j]? = some u → ∃ y, xs[j]? = some y ∧ y.oneCell' = true ∧ RepA Ψ loc u y) :
    Ok fr Ψ (loc.upd lab (some ⟨w.heap.size, 0, none⟩, 1)) (σ.upd lab (some (.box cs))) (w.alloc (.cells xs ty)) := by
  have hle : Loc.le loc (loc.upd lab (some ⟨w.heap.size, 0, none⟩, 1)) := Loc.le_upd hlab
  have h1 := hok.chg (w' := w.alloc (.cells xs ty)) (Same.of (World.grownBy_alloc w _ none) (fun k e => nomatch e))
  have h2 := h1.locs hle (fun l o e => Loc.upd_ne (fun q => by rw [q, hs] at e; cases e))
  refine h2.claim hs ⟨w.heap.size, 0, xs, ty, Loc.upd_eq, heap_alloc_new w _, hn, fun j u hu => ?_⟩ (fun b hb => ?_)
  · obtain ⟨y, q1, q2, q3⟩ := hr j u hu
    exact ⟨y, q1, q2, q3.mono (.refl _) hle⟩
  · have : b = w.heap.size := by simp [blk, Loc.upd_eq] at hb; exact hb.symm
    subst this
    have hf := hok.new (Nat.le_refl _)
    exact ⟨hf.pr, hf.tb, hf.fz, fun l o e q => by
      rw [blk_congr (Loc.upd_ne (fun q => by rw [q, hs] at e; cases e))] at q
      exact hf.ob l o e q⟩
theorem ds_alloc {t : TypeId} {cs : List AV} (ho : o.op = .alloc t) (hz : zeroT P t = some cs) : DSound P o e σ lab ⟨True, fun u => u = .ptr lab 0, [], true, [(lab, some (.box cs))]⟩ := by
  intro fr Ψ loc w ρ he hok hlab hs hd
  obtain ⟨i, z, h1, h2, h3, rfl⟩ := zero_parts hz
  refine ⟨.pointer (some ⟨w.heap.size, 0, none⟩), w.alloc (.cells z.cells t), Ψ, loc.upd lab (some ⟨w.heap.size, 0, none⟩, 1), _, .inl ⟨?_, .ptr Loc.upd_eq⟩, rfl, ok_newBox hok hlab hs (by simp) (fun j u hu => ?_), .refl _, fun l hl => Loc.upd_ne hl, Same.of (World.grownBy_alloc w _ none) (fun k e => nomatch e)⟩
  · simp [execOp, ho, Instr.alloc, zeroValue, typeInfo, h1, h2, newVar, newRow]
  · rw [List.getElem?_map, Array.getElem?_toList] at hu
    cases hj : z.cells[j]? with
    | none => simp [hj] at hu
    | some y =>
      simp [hj] at hu
      subst hu
      have := (Array.all_eq_true_iff_forall_mem.1 h3) y (Array.mem_of_getElem? hj)
      exact ⟨y, rfl, this, ofC_rep this⟩
theorem ds_box {t : TypeId} {x : Operand} {v : AV} (ho : o.op = .box t x) (hx : e x = some v) (hc : (vcells v).all isCell = true) : DSound P o e σ lab ⟨True, fun u => u = .ptr lab 0, [], true, [(lab, some (.box (vcells v)))]⟩ := by
  intro fr Ψ loc w ρ he hok hlab hs hd
  obtain ⟨c1, c2⟩ := cells_of (he x v hx) hc
  exact ⟨.pointer (some ⟨w.heap.size, 0, none⟩), w.alloc (.cells (ρ x).cells t), Ψ, loc.upd lab (some ⟨w.heap.size, 0, none⟩, 1), _, .inl ⟨by simp [execOp, ho, Instr.box, newVar, newRow], .ptr Loc.upd_eq⟩, rfl, ok_newBox hok hlab hs c1 c2, .refl _, fun l hl => Loc.upd_ne hl, Same.of (World.grownBy_alloc w _ none) (fun k e => nomatch e)⟩
theorem ds_storeR {t : TypeId} {x y : Operand} {g : Bool} {k k' r ty i off : Nat} {els : List (List PV)} {v : AV} {ps : List PV} (ho : o.op = .store t x y) (hdst : o.dst = none) (hl : lay P t = some (g, k)) (hx : e x = some (.rp r k' i off)) (hy : e y = some v) (hσ : σ r = some (.row ty k' els))
    (hp : toPs (vcells v) = some ps) (hk : ps.length = k) (hle : off + k ≤ k') :
    DSound P o e σ lab ⟨i < els.length, fun u => u = .emp, [], true, [(r, some (.row ty k' (els.modify i (fun row => repl row off ps))))]⟩ := by
  intro fr Ψ loc w ρ he hok hlab _ hi
  have hi : i < els.length := hi
  have h := he x _ hx
  generalize hq : ρ x = z at h
  obtain ⟨A, c, h1, h2⟩ : HoldsRow Ψ loc w r ty k' els := hok.ob r _ hσ
  have hcell : (vcells v).all isCell = true := by
    rw [List.all_eq_true]
    intro u hu
    obtain ⟨j, hj⟩ := List.mem_iff_getElem?.1 hu
    have hl2 := (toPs_get hp).1
    obtain ⟨u', q1, q2⟩ := (toPs_get hp).2 j (ps[j]'(by have := (List.getElem?_eq_some_iff.1 hj).1; omega)) (List.getElem?_eq_getElem _)
    rw [hj] at q1
    injection q1 with q1
    subst q1
    cases u <;> first | rfl | cases q2
  obtain ⟨c1, c2⟩ := cells_of (he y v hy) hcell
  have hlv : (vcells v).length = k := by rw [← (toPs_get hp).1]; exact hk
  cases h with
  | rp hp2 =>
    rename_i b' c'
    rcases h2 with ⟨rfl, _⟩ | ⟨h0, b, cur, rfl, hh, q1, q2, q3, q4, q5⟩
    · simp at hi
    rw [h1] at hp2
    injection hp2 with hp2
    injection hp2 with hp2 h2
    injection hp2 with hp2
    injection hp2 with hp2
    subst hp2
    have hik : (i + 1) * k' ≤ c * k' := Nat.mul_le_mul_right _ (by omega)
    rw [Nat.add_mul, Nat.one_mul] at hik
    have hin : i * k' + off + k ≤ cur.size := by omega
    have hrun := storeVar_at (P := P) (t := t) (x := ρ y) hl hh (c1.trans hlv) (off := i * k' + off) hin (fun u hu => by
      obtain ⟨j, hj⟩ := List.mem_iff_getElem?.1 hu
      have hlt : j < (vcells v).length := by
        have := (List.getElem?_eq_some_iff.1 hj).1
        rw [Array.length_toList, c1] at this
        exact this
      obtain ⟨y', q1, q2, _⟩ := c2 j _ (List.getElem?_eq_getElem hlt)
      rw [Array.getElem?_toList, q1] at hj
      injection hj with hj
      rw [← hj]
      exact q2)
    obtain ⟨c', rfl⟩ : ∃ c', c = c' + 1 := ⟨c - 1, by omega⟩
    have hb := blk_some h1
    have hok1 := (hok.drop r).chg (Same.row (K := Free fr Ψ loc (σ.upd r none)) (hok.free hσ hb) (repl cur.toList (i * k' + off) (ρ y).cells.toList).toArray)
    refine ⟨undef, w.setRow b (repl cur.toList (i * k' + off) (ρ y).cells.toList).toArray, Ψ, loc, .emp, .inr ⟨by simp [execOp, ho, hq, hrun], hdst⟩, rfl, ?_, .refl _, fun _ _ => rfl, ?_⟩
    · show Ok fr Ψ loc (σ.upd r _) _
      rw [← upd_upd σ r none]
      have hsz : i * k' + off + (ρ y).cells.toList.length ≤ cur.toList.length := by simp [c1, hlv]; omega
      refine hok1.claim (upd_eq _ _ _) ⟨_, _, h1, .inr ⟨h0, b, _, rfl, setRow_heap w b cur _ ty _ hh, by simpa using q1, q2, ?_, fun row hrow => ?_, fun i2 j p hij => ?_⟩⟩ (fun b' hb' => by rw [hb] at hb'; injection hb' with hb'; rw [← hb']; exact hok.free hσ hb)
      · simp only [List.size_toArray]
        rw [repl_len hsz]
        simpa using q3
      · obtain ⟨n, hn⟩ := List.mem_iff_getElem?.1 hrow
        rw [List.getElem?_modify] at hn
        cases hm : els[n]? with
        | none => simp [hm] at hn
        | some row0 =>
          have := q4 row0 (List.mem_of_getElem? hm)
          simp only [hm, Option.map_eq_map, Option.map_some, Option.some.injEq] at hn
          split at hn
          · subst hn; rw [repl_len (by omega)]; exact this
          · subst hn; exact this
      · unfold cellOf at hij
        rw [List.getElem?_modify] at hij
        cases hm : els[i2]? with
        | none => simp [hm] at hij
        | some row0 =>
          have hr0 := q4 row0 (List.mem_of_getElem? hm)
          have hi2 := (List.getElem?_eq_some_iff.1 hm).1
          have hg := repl_get hsz (i2 * k' + j)
          rw [Array.length_toList, c1, hlv] at hg
          simp only [hm, Option.map_eq_map, Option.map_some, Option.bind_some] at hij
          split at hij
          · rename_i hii
            subst hii
            rw [repl_get (by omega)] at hij
            split at hij
            · rename_i hj
              obtain ⟨u, r1, r2⟩ := (toPs_get hp).2 _ _ hij
              obtain ⟨y', s1, s2, s3⟩ := c2 _ u r1
              refine ⟨y', ?_, toP_rep s3 r2⟩
              rw [List.getElem?_toArray, hg, if_pos (by omega), Array.getElem?_toList, show i * k' + j - (i * k' + off) = j - off by omega]
              exact s1
            · rename_i hj
              obtain ⟨y', s1, s2⟩ := q5 i j p (by simp [cellOf, hm, hij])
              refine ⟨y', ?_, s2⟩
              rw [List.getElem?_toArray, hg, if_neg (by omega), Array.getElem?_toList]
              exact s1
          · rename_i hii
            have hjk : j < k' := by rw [← hr0]; exact (List.getElem?_eq_some_iff.1 hij).1
            obtain ⟨y', s1, s2⟩ := q5 i2 j p (by simp [cellOf, hm, hij])
            refine ⟨y', ?_, s2⟩
            have hout : ¬ (i * k' + off ≤ i2 * k' + j ∧ i2 * k' + j < i * k' + off + k) := by
              intro hin2
              rcases Nat.lt_or_gt_of_ne hii with hlt | hgt
              · have := Nat.mul_le_mul_right k' (show i + 1 ≤ i2 by omega)
                rw [Nat.add_mul, Nat.one_mul] at this
                omega
              · have := Nat.mul_le_mul_right k' (show i2 + 1 ≤ i by omega)
                rw [Nat.add_mul, Nat.one_mul] at this
                omega
            rw [List.getElem?_toArray, hg, if_neg hout, Array.getElem?_toList]
            exact s1
    · exact Same.row (K := fun k => ¬ fr.pr k) (hok.ow r _ b hσ hb).1 _
theorem ds_storeT {t : TypeId} {x y : Operand} {j : Nat} {cts : List CT} {ct : CT} {v : AV} {p : PV} (ho : o.op = .store t x y) (hdst : o.dst = none) (hl : lay P t = some (false, 1)) (hx : e x = some (.tp cts j)) (hy : e y = some v) (hc : cts[j]? = some ct) (hp : toP v = some p) :
    DSound P o e σ lab ⟨ct.ok p, fun u => u = .emp, [], true, []⟩ := by
  intro fr Ψ loc w ρ he hok hlab _ hd
  have hd : ct.ok p := hd
  have h := he x _ hx
  generalize hq : ρ x = z at h
  have hrep := toP_rep (he y v hy) hp
  have h1 := hrep.one
  have h3 : (ρ y).cells = #[ρ y] := by
    generalize ρ y = q at h1 ⊢
    cases q <;> first | rfl | cases h1
  cases h with
  | tp ht h0 hm hle =>
    rename_i b q m
    obtain ⟨arr, ty, hh, hs, hall⟩ := hok.tb _ _ _ ht
    have hj : j < cts.length := (List.getElem?_eq_some_iff.1 hc).1
    have hrun := storeVar_at (P := P) (t := t) (x := ρ y) hl hh (by rw [h3]; rfl) (off := q + j) (by omega) (fun u hu => by rw [h3] at hu; simp at hu; rw [hu]; exact h1)
    have hset : (repl arr.toList (q + j) (ρ y).cells.toList).toArray = arr.setIfInBounds (q + j) (ρ y) := by
      apply Array.ext_getElem?
      intro n
      rw [List.getElem?_toArray, repl_get (by rw [h3]; simp; omega), h3, Array.getElem?_setIfInBounds]
      simp only [List.length_cons, List.length_nil, Array.getElem?_toList]
      by_cases hn : q + j = n
      · subst hn
        rw [if_pos (by omega), if_pos rfl, if_pos (by omega)]
        simp
      · rw [if_neg (by omega), if_neg hn]
    rw [hset] at hrun
    exact ⟨undef, w.setRow b (arr.setIfInBounds (q + j) (ρ y)), Ψ, loc, .emp, .inr ⟨by simp [execOp, ho, hq, hrun], hdst⟩, rfl, hok.storeTyped ht (by omega) (by rw [Nat.add_mod, hm, Nat.zero_add, Nat.mod_mod, Nat.mod_eq_of_lt hj]; exact hc) hd hrep hh, .refl _, fun _ _ => rfl, Same.row (K := fun k => ¬ fr.pr k) (hok.tf b _ ht).1 _⟩
end
end AM
